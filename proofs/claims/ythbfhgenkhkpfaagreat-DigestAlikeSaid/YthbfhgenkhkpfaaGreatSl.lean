import Derived.Test.YthbfhgenkhkpfaaGreatGa2
import Derived.Test.YthbfhgenkhkpfaaGreatCt2
import Derived.Laws.Runes
import Derived.Sort.Walk0
namespace Go.Proofs.YthbfhgenkhkpfaaGreat
open Go Go.RowKit
set_option linter.unusedVariables false
set_option linter.unusedSimpArgs false
def value_Join_raw (d0:Val) (d1:Val) (y:Val × Int):Prop :=
 ∃ x27,value_Check_raw d0 x27∧(((x27 != (0:Int))=true→(y=((⟨(0:Int),(0:Int),(0:Int),false,([]:Str),([]:List Int),([]:List Int),(0:Int)⟩:Val),(2:Int))))∧((x27 != (0:Int))=false→(∃ x39,value_Check_raw d1 x39∧(((x39 != (0:Int))=true→(y=((⟨(0:Int),(0:Int),(0:Int),false,([]:Str),([]:List Int),([]:List Int),(0:Int)⟩:Val),(2:Int))))∧((x39 != (0:Int))=false→(((d0.kind != d1.kind)=true→(y=((⟨(0:Int),(0:Int),(0:Int),false,([]:Str),([]:List Int),([]:List Int),(0:Int)⟩:Val),(3:Int))))∧((d0.kind != d1.kind)=false→(((d0.kind==1)=true→(∃ x102,cmp_Compare_int_raw d0.time d1.time x102∧(∃ x103,cmp_Compare_int_raw d0.node d1.node x103∧(∃ x104,value_bit_raw d0.dead x104∧(∃ x105,value_bit_raw d1.dead x105∧(∃ x106,cmp_Compare_string_raw d0.text d1.text x106∧(∃ x107,value_first_raw ([x102,x103,(IntKind.i64.wrap (x104 - x105)),x106]:List Int) x107∧(((decide (x107<0))=true→(∃ x284,slices_Clone_int_raw d1.plus x284∧(∃ x288,slices_Clone_int_raw d1.minus x288∧(y=((⟨d1.kind,d1.time,d1.node,d1.dead,d1.text,x284,x288,d1.flags⟩:Val),(0:Int))))))∧((decide (x107<0))=false→(∃ x411,slices_Clone_int_raw d0.plus x411∧(∃ x415,slices_Clone_int_raw d0.minus x415∧(y=((⟨d0.kind,d0.time,d0.node,d0.dead,d0.text,x411,x415,d0.flags⟩:Val),(0:Int))))))))))))))∧((d0.kind==1)=false→(((d0.kind==2)=true→(∃ x544,value_counter_join_1_raw d0.plus d1.plus x544∧(∃ x548,value_counter_join_1_raw d0.minus d1.minus x548∧(∃ x675,slices_Clone_int_raw x544 x675∧(∃ x679,slices_Clone_int_raw x548 x679∧(y=((⟨d0.kind,d0.time,d0.node,d0.dead,d0.text,x675,x679,d0.flags⟩:Val),(0:Int))))))))∧((d0.kind==2)=false→(((d0.kind==3)=true→(∃ x862,slices_Clone_int_raw d0.plus x862∧(∃ x866,slices_Clone_int_raw d0.minus x866∧(y=((⟨d0.kind,d0.time,d0.node,d0.dead,d0.text,x862,x866,(IntKind.u64.wrap ((BitVec.ofInt IntKind.u64.bits d0.flags ||| BitVec.ofInt IntKind.u64.bits d1.flags).toNat:Int))⟩:Val),(0:Int))))))∧((d0.kind==3)=false→False)))))))))))))
set_option maxRecDepth 20000 in
set_option maxHeartbeats 4000000 in
theorem value_Join_c {L:List Nat} {w:World} {csP0:List Value} (d0:Val) (HP0:Stb L w (fun w=>kVal.r w csP0 d0)) {csP1:List Value} (d1:Val) (HP1:Stb L w (fun w=>kVal.r w csP1 d1)) (hL:Lt L w) {y:Val × Int} (h:value_Join_raw d0 d1 y) :
  Calls Tryz.prog 92 [.agg csP0.toArray,.agg csP1.toArray].toArray w (Ret fun v w'=>Ext w w'∧∃ (cs90:List Value),v=.tuple #[.agg cs90.toArray,.int .i64 y.2]∧Stb L w' (fun w=>kVal.r w cs90 y.1)):=by
 obtain ⟨A1,c2,A4,c5,rfl,H3,H6⟩:=kVal_open HP0
 obtain ⟨A7,c8,A10,c11,rfl,H9,H12⟩:=kVal_open HP1
 unfold value_Join_raw at h
 refine calls_ec Tryz.func92 rfl rfl rfl ?_
 refine ec_sr ?_
 refine o_box (cs:=(cVal d0 A1 c2 A4 c5)) rfl rfl rfl ?_
 intro b13 w13 e13 F13 B13
 have S13:=B13.stb (nin hL e13)
 have G14:Fr L w w13:=Fr.ext F13
 refine o_box (cs:=(cVal d1 A7 c8 A10 c11)) rfl rfl rfl ?_
 intro b15 w15 e15 F15 B15
 have S15:=B15.stb (nin (hL.fr F13) e15)
 have E16:=F13.trans F15
 have G18:Fr L w13 w15:=Fr.ext F15
 refine o_alloc zero_api_Value rfl rfl rfl ?_
 intro b19 w19 e19 F19 B19
 have n19:w.heap.size≤b19:=by rw [e19]; exact E16.size
 have m20:w.heap.size≤b19:=by rw [e19]; exact (G14.trans (Fr.ext F15)).size
 have E23:=E16.trans F19
 have G26:Fr L w15 w19:=Fr.ext F19
 refine o_w (v:=.int .i64 0) (r_asg rfl) ?_
 refine eo_nil_sq ?_
 refine ec_seq ?_
 refine ec_block ?_
 refine ec_seq ?_
 refine ec_sr ?_
 refine o_w (v:=.agg (cVal d0 A1 c2 A4 c5).toArray) (r_lda agg_api_Value rfl (vs:=(cVal d0 A1 c2 A4 c5)) rfl ((S13.fr (G18.trans (Fr.ext F19)) sI).now.part (n:=8) rfl)) ?_
 obtain ⟨x27,hx27,h⟩:=h
 refine o_call cf_value_Check rfl (value_Check_c d0 (kVal_mk (d:=d0) (H3.up ((G14.trans (Fr.ext F15)).trans (Fr.ext F19)) sI (upc (.inr m20) (fun _ h=>.inl h))) (H6.up ((G14.trans (Fr.ext F15)).trans (Fr.ext F19)) sI (upc (.inr m20) (fun _ h=>.inl h)))) ((hL.fr E23).cons B19.lt) hx27) rfl rfl ?_
 rintro _ w27 ⟨F27,rfl⟩
 have E28:=E23.trans F27
 refine o_w (v:=.bool (x27 != (0:Int))) (r_int rfl rfl rfl) ?_
 refine o_w (v:=.bool (x27 != (0:Int))) (r_asg rfl) ?_
 refine eo_nil_sq ?_
 refine ec_cond rfl (fun hc33=>?_) (fun hc33=>?_)
 ·replace h:=h.1 hc33
  refine ec_skip ?_
  refine sq_n ?_
  refine ec_condT rfl hc33 ?_
  refine ec_sr ?_
  refine o_w (v:=.agg #[.int .i64 0,.int .i64 0,.int .i64 0,.bool false,str [],.slice none ([]:List Int).length 0,.slice none ([]:List Int).length 0,.int .u64 0]) (r_build bld_api_Value (vs:=[]) (cells:=[.int .i64 0,.int .i64 0,.int .i64 0,.bool false,str [],.slice none ([]:List Int).length 0,.slice none ([]:List Int).length 0,.int .u64 0]) rfl rfl) ?_
  refine o_store rfl (B19.ex F27) (vs:=[.int .i64 0,.int .i64 0,.int .i64 0,.bool false,str [],.slice none ([]:List Int).length 0,.slice none ([]:List Int).length 0,.int .u64 0]) rfl sz_api_Value rfl rfl rfl ?_
  intro w34 F34 B34
  have E35:=Ext.st E28 F34 (by simp; omega)
  have B34':Blk w34 b19 _ [.int .i64 0,.int .i64 0,.int .i64 0,.bool false,str [],.slice none ([]:List Int).length 0,.slice none ([]:List Int).length 0,.int .u64 0]:=B34
  refine o_w (v:=.int .i64 2) (r_asg rfl) ?_
  refine eo_nil_sq ?_
  refine ec_ret ?_
  refine blk_ret ?_
  refine sq_ret ?_
  subst h
  exact (endr2 (rv_a rfl (agg_api_Value) B34' (vs:=[.int .i64 0,.int .i64 0,.int .i64 0,.bool false,str [],.slice none ([]:List Int).length 0,.slice none ([]:List Int).length 0,.int .u64 0]) rfl rfl) (rv_t rfl) ⟨_,rfl,E35,_,rfl,(kVal_mk (d:=(⟨(0:Int),(0:Int),(0:Int),false,([]:Str),([]:List Int),([]:List Int),(0:Int)⟩:Val)) stb_nil stb_nil)⟩)
 ·replace h:=h.2 hc33
  refine ec_region ?_
  refine o_w (v:=.agg (cVal d1 A7 c8 A10 c11).toArray) (r_lda agg_api_Value rfl (vs:=(cVal d1 A7 c8 A10 c11)) rfl ((S15.fr (G26.trans (Fr.ext F27)) sI).now.part (n:=8) rfl)) ?_
  obtain ⟨x39,hx39,h⟩:=h
  refine o_call cf_value_Check rfl (value_Check_c d1 (kVal_mk (d:=d1) (H9.up (((G14.trans (Fr.ext F15)).trans (Fr.ext F19)).trans (Fr.ext F27)) sI (upc (.inr m20) (fun _ h=>.inl h))) (H12.up (((G14.trans (Fr.ext F15)).trans (Fr.ext F19)).trans (Fr.ext F27)) sI (upc (.inr m20) (fun _ h=>.inl h)))) ((hL.fr E28).cons (B19.ex F27).lt) hx39) rfl rfl ?_
  rintro _ w39 ⟨F39,rfl⟩
  have E40:=E28.trans F39
  have G41:=(((G14.trans (Fr.ext F15)).trans (Fr.ext F19)).trans (Fr.ext F27)).trans (Fr.ext F39)
  refine o_w (v:=.bool (x39 != (0:Int))) (r_int rfl rfl rfl) ?_
  refine o_w (v:=.bool (x39 != (0:Int))) (r_asg rfl) ?_
  refine eo_nil_sq ?_
  refine ec_cond rfl (fun hc45=>?_) (fun hc45=>?_)
  ·replace h:=h.1 hc45
   refine ec_sr ?_
   refine o_w (v:=.agg #[.int .i64 0,.int .i64 0,.int .i64 0,.bool false,str [],.slice none ([]:List Int).length 0,.slice none ([]:List Int).length 0,.int .u64 0]) (r_build bld_api_Value (vs:=[]) (cells:=[.int .i64 0,.int .i64 0,.int .i64 0,.bool false,str [],.slice none ([]:List Int).length 0,.slice none ([]:List Int).length 0,.int .u64 0]) rfl rfl) ?_
   refine o_store rfl ((B19.ex F27).ex F39) (vs:=[.int .i64 0,.int .i64 0,.int .i64 0,.bool false,str [],.slice none ([]:List Int).length 0,.slice none ([]:List Int).length 0,.int .u64 0]) rfl sz_api_Value rfl rfl rfl ?_
   intro w46 F46 B46
   have E47:=Ext.st E40 F46 (by simp; omega)
   have B46':Blk w46 b19 _ [.int .i64 0,.int .i64 0,.int .i64 0,.bool false,str [],.slice none ([]:List Int).length 0,.slice none ([]:List Int).length 0,.int .u64 0]:=B46
   refine o_w (v:=.int .i64 2) (r_asg rfl) ?_
   refine eo_nil_sq ?_
   refine ec_ret ?_
   refine blk_ret ?_
   refine sq_ret ?_
   subst h
   exact (endr2 (rv_a rfl (agg_api_Value) B46' (vs:=[.int .i64 0,.int .i64 0,.int .i64 0,.bool false,str [],.slice none ([]:List Int).length 0,.slice none ([]:List Int).length 0,.int .u64 0]) rfl rfl) (rv_t rfl) ⟨_,rfl,E47,_,rfl,(kVal_mk (d:=(⟨(0:Int),(0:Int),(0:Int),false,([]:Str),([]:List Int),([]:List Int),(0:Int)⟩:Val)) stb_nil stb_nil)⟩)
  ·replace h:=h.2 hc45
   refine ec_sr ?_
   refine o_w (v:=.pointer (some ⟨b13,0,none⟩)) (r_fa fld_api_Value_0 rfl rfl) ?_
   refine o_w (v:=.int .i64 d0.kind) (r_ld one_int rfl ((S13.fr (((G18.trans (Fr.ext F19)).trans (Fr.ext F27)).trans (Fr.ext F39)) sI).now.cell rfl)) ?_
   refine o_w (v:=.pointer (some ⟨b15,0,none⟩)) (r_fa fld_api_Value_0 rfl rfl) ?_
   refine o_w (v:=.int .i64 d1.kind) (r_ld one_int rfl ((S15.fr ((G26.trans (Fr.ext F27)).trans (Fr.ext F39)) sI).now.cell rfl)) ?_
   refine o_w (v:=.bool (d0.kind != d1.kind)) (r_int rfl rfl rfl) ?_
   refine o_w (v:=.bool (d0.kind != d1.kind)) (r_asg rfl) ?_
   refine eo_nil_sq ?_
   refine ec_cond rfl (fun hc51=>?_) (fun hc51=>?_)
   ·replace h:=h.1 hc51
    refine ec_sr ?_
    refine o_w (v:=.agg #[.int .i64 0,.int .i64 0,.int .i64 0,.bool false,str [],.slice none ([]:List Int).length 0,.slice none ([]:List Int).length 0,.int .u64 0]) (r_build bld_api_Value (vs:=[]) (cells:=[.int .i64 0,.int .i64 0,.int .i64 0,.bool false,str [],.slice none ([]:List Int).length 0,.slice none ([]:List Int).length 0,.int .u64 0]) rfl rfl) ?_
    refine o_store rfl ((B19.ex F27).ex F39) (vs:=[.int .i64 0,.int .i64 0,.int .i64 0,.bool false,str [],.slice none ([]:List Int).length 0,.slice none ([]:List Int).length 0,.int .u64 0]) rfl sz_api_Value rfl rfl rfl ?_
    intro w52 F52 B52
    have E53:=Ext.st E40 F52 (by simp; omega)
    have B52':Blk w52 b19 _ [.int .i64 0,.int .i64 0,.int .i64 0,.bool false,str [],.slice none ([]:List Int).length 0,.slice none ([]:List Int).length 0,.int .u64 0]:=B52
    refine o_w (v:=.int .i64 3) (r_asg rfl) ?_
    refine eo_nil_sq ?_
    refine ec_ret ?_
    refine blk_ret ?_
    refine sq_ret ?_
    subst h
    exact (endr2 (rv_a rfl (agg_api_Value) B52' (vs:=[.int .i64 0,.int .i64 0,.int .i64 0,.bool false,str [],.slice none ([]:List Int).length 0,.slice none ([]:List Int).length 0,.int .u64 0]) rfl rfl) (rv_t rfl) ⟨_,rfl,E53,_,rfl,(kVal_mk (d:=(⟨(0:Int),(0:Int),(0:Int),false,([]:Str),([]:List Int),([]:List Int),(0:Int)⟩:Val)) stb_nil stb_nil)⟩)
   ·replace h:=h.2 hc51
    refine ec_skip ?_
    refine blk_n ?_
    refine sq_n ?_
    refine ec_sr ?_
    refine o_w (v:=.pointer (some ⟨b13,0,none⟩)) (r_fa fld_api_Value_0 rfl rfl) ?_
    refine o_w (v:=.int .i64 d0.kind) (r_ld one_int rfl ((S13.fr (((G18.trans (Fr.ext F19)).trans (Fr.ext F27)).trans (Fr.ext F39)) sI).now.cell rfl)) ?_
    refine o_inl (vs:=[.int .i64 d0.kind]) (caps:=[]) cf_value_kinds rfl rfl rfl rfl ?_
    refine calls_ec Tryz.func94 rfl rfl rfl ?_
    refine ec_sr ?_
    refine o_w (v:=.nilIface) (r_asg rfl) ?_
    refine o_w (v:=.bool false) (r_asg rfl) ?_
    refine eo_nil_sq ?_
    refine ec_seq ?_
    refine ec_sr ?_
    refine o_w (v:=.int .i64 d0.kind) (r_mov rfl) ?_
    refine eo_nil_sq ?_
    refine ec_block ?_
    refine ec_sr ?_
    refine o_w (v:=.bool (d0.kind==1)) (r_int rfl rfl rfl) ?_
    refine o_w (v:=.bool (d0.kind==1)) (r_asg rfl) ?_
    refine eo_nil_sq ?_
    refine ec_cond rfl (fun hc57=>?_) (fun hc57=>?_)
    ·replace h:=h.1 hc57
     refine ec_sr ?_
     refine o_w (v:=.agg #[]) (r_build bld_value_register (vs:=[]) (cells:=[]) rfl rfl) ?_
     refine o_w (v:=.iface 147 (.agg #[])) (r_mkif conc_value_register rfl) ?_
     refine o_w (v:=.iface 147 (.agg #[])) (r_asg rfl) ?_
     refine o_w (v:=.bool true) (r_asg rfl) ?_
     refine eo_nil_sq ?_
     refine ec_ret ?_
     refine blk_ret ?_
     refine sq_ret ?_
     refine end2 (v:=.iface 147 (.agg #[])) (x:=.bool true) rfl rfl ⟨_,rfl,?_⟩
     refine o_w (v:=.tuple #[.iface 147 (.agg #[]),.bool true]) (r_mov rfl) ?_
     refine o_w (v:=.iface 147 (.agg #[])) (r_ext rfl rfl) ?_
     refine o_w (v:=.bool true) (r_ext rfl rfl) ?_
     refine o_w (v:=.iface 147 (.agg #[])) (r_asg rfl) ?_
     refine o_w (v:=.bool true) (r_asg rfl) ?_
     refine eo_r ?_
     refine o_w (v:=.iface 147 (.agg #[])) (r_mov rfl) ?_
     refine o_w (v:=.agg (cVal d0 A1 c2 A4 c5).toArray) (r_lda agg_api_Value rfl (vs:=(cVal d0 A1 c2 A4 c5)) rfl ((S13.fr (((G18.trans (Fr.ext F19)).trans (Fr.ext F27)).trans (Fr.ext F39)) sI).now.part (n:=8) rfl)) ?_
     refine o_w (v:=.agg (cVal d1 A7 c8 A10 c11).toArray) (r_lda agg_api_Value rfl (vs:=(cVal d1 A7 c8 A10 c11)) rfl ((S15.fr ((G26.trans (Fr.ext F27)).trans (Fr.ext F39)) sI).now.part (n:=8) rfl)) ?_
     refine o_inlI (vs:=[.agg (cVal d0 A1 c2 A4 c5).toArray,.agg (cVal d1 A7 c8 A10 c11).toArray]) mf_value_register_ouroboros_value_join rfl rfl rfl rfl ?_
     refine calls_ec Tryz.func151 rfl rfl rfl ?_
     refine ec_sr ?_
     refine o_box (cs:=[]) rfl rfl rfl ?_
     intro b58 w58 e58 F58 B58
     have E59:=E40.trans F58
     refine o_box (cs:=(cVal d0 A1 c2 A4 c5)) rfl rfl rfl ?_
     intro b64 w64 e64 F64 B64
     have S64:=B64.stb (nin ((hL.fr E59).cons (((B19.ex F27).ex F39).ex F58).lt) e64)
     have E65:=E59.trans F64
     refine o_box (cs:=(cVal d1 A7 c8 A10 c11)) rfl rfl rfl ?_
     intro b71 w71 e71 F71 B71
     have S71:=B71.stb (nin ((hL.fr E65).cons ((((B19.ex F27).ex F39).ex F58).ex F64).lt) e71)
     have E72:=E65.trans F71
     have G77:Fr (b19::L) w64 w71:=Fr.ext F71
     refine o_alloc zero_api_Value rfl rfl rfl ?_
     intro b79 w79 e79 F79 B79
     have n79:w.heap.size≤b79:=by rw [e79]; exact E72.size
     have q80:b19<b79:=by rw [e79]; exact (((((B19.ex F27).ex F39).ex F58).ex F64).ex F71).lt
     have m81:w.heap.size≤b79:=by rw [e79]; exact (((G41.trans (Fr.ext F58)).trans (Fr.ext F64)).trans (Fr.ext F71)).size
     have E87:=E72.trans F79
     have G88:=(((G41.trans (Fr.ext F58)).trans (Fr.ext F64)).trans (Fr.ext F71)).trans (Fr.ext F79)
     have G93:Fr (b19::L) w71 w79:=Fr.ext F79
     refine eo_nil_sq ?_
     iterate 2 refine ec_seq ?_
     obtain ⟨x102,hx102,h⟩:=h
     obtain ⟨x103,hx103,h⟩:=h
     obtain ⟨x104,hx104,h⟩:=h
     obtain ⟨x105,hx105,h⟩:=h
     obtain ⟨x106,hx106,h⟩:=h
     obtain ⟨x107,hx107,h⟩:=h
     have hLd101:=(((hL.fr E87).cons ((((((B19.ex F27).ex F39).ex F58).ex F64).ex F71).ex F79).lt).cons B79.lt)
     refine ec_any0 (by kernel_rfl) [[],[0],[],[2],[0,1,2,3],[],[5],[],[7],[0,1,2,3,4,5,6,7,8],[],[10],[0,1,2,3,4,5,6,7,8,9,10,11],[],[13],[0,1,2,3,4,5,6,7,8,9,10,11,12,13,14],[0,1,2,3,4,5,6,7,8,9,10,11,12,13,14,15],[],[17],[],[19],[0,1,2,3,4,5,6,7,8,9,10,11,12,13,14,15,17,18,19,20],[0,1,2,3,4,5,6,7,8,9,10,11,12,13,14,15,16,17,18,19,20,21],[0,1,2,3,4,5,6,7,8,9,10,11,12,13,14,15,16,17,18,19,20,21,22],[0,1,2,3,4,5,6,7,8,9,10,11,12,13,14,15,16,17,18,19,20,21,22,23]] [7,8,9,10,11,12,13,14,15,16,17,18,19,20,21,22,23,24,25,26,27,28,29,30,31] [fun v _=>v=(.pointer (some ⟨b64,1,none⟩):Value),fun v _=>v=(.int .i64 d0.time:Value),fun v _=>v=(.pointer (some ⟨b71,1,none⟩):Value),fun v _=>v=(.int .i64 d1.time:Value),fun v _=>v=(.int .i64 x102:Value),fun v _=>v=(.pointer (some ⟨b64,2,none⟩):Value),fun v _=>v=(.int .i64 d0.node:Value),fun v _=>v=(.pointer (some ⟨b71,2,none⟩):Value),fun v _=>v=(.int .i64 d1.node:Value),fun v _=>v=(.int .i64 x103:Value),fun v _=>v=(.pointer (some ⟨b64,3,none⟩):Value),fun v _=>v=(.bool d0.dead:Value),fun v _=>v=(.int .i64 x104:Value),fun v _=>v=(.pointer (some ⟨b71,3,none⟩):Value),fun v _=>v=(.bool d1.dead:Value),fun v _=>v=(.int .i64 x105:Value),fun v _=>v=(.int .i64 (IntKind.i64.wrap (x104 - x105)):Value),fun v _=>v=(.pointer (some ⟨b64,4,none⟩):Value),fun v _=>v=(str d0.text:Value),fun v _=>v=(.pointer (some ⟨b71,4,none⟩):Value),fun v _=>v=(str d1.text:Value),fun v _=>v=(.int .i64 x106:Value),fun v w'=>∃ b101_22,v=(.slice (some ⟨b101_22,0,none⟩) 4 4:Value)∧Blk w' b101_22 3 [.int .i64 x102,.int .i64 x103,.int .i64 (IntKind.i64.wrap (x104 - x105)),.int .i64 x106]∧w79.heap.size≤b101_22,fun v _=>v=(.int .i64 x107:Value),fun v _=>v=(.bool (decide (x107<0)):Value)] (by kernel_rfl) ⟨fun _ _ _ _ _ h=>h,fun _ _ _ _ _ h=>h,fun _ _ _ _ _ h=>h,fun _ _ _ _ _ h=>h,fun _ _ _ _ _ h=>h,fun _ _ _ _ _ h=>h,fun _ _ _ _ _ h=>h,fun _ _ _ _ _ h=>h,fun _ _ _ _ _ h=>h,fun _ _ _ _ _ h=>h,fun _ _ _ _ _ h=>h,fun _ _ _ _ _ h=>h,fun _ _ _ _ _ h=>h,fun _ _ _ _ _ h=>h,fun _ _ _ _ _ h=>h,fun _ _ _ _ _ h=>h,fun _ _ _ _ _ h=>h,fun _ _ _ _ _ h=>h,fun _ _ _ _ _ h=>h,fun _ _ _ _ _ h=>h,fun _ _ _ _ _ h=>h,fun _ _ _ _ _ h=>h,fun _ v w' w'' F h=>by obtain ⟨b101_22,hv,B101_22,qB101_22⟩:=h; exact ⟨b101_22,hv,(B101_22.ex F),qB101_22⟩,fun _ _ _ _ _ h=>h,fun _ _ _ _ _ h=>h,trivial⟩ ?_ ?_
     ·refine ⟨?_,?_,?_,?_,?_,?_,?_,?_,?_,?_,?_,?_,?_,?_,?_,?_,?_,?_,?_,?_,?_,?_,?_,?_,?_,trivial⟩
      ·intro ρ w101o F101o hS hρ
       have q4:ρ 4=.pointer (some ⟨b64,0,none⟩):=hρ 4 (by kernel_rfl)
       exact o_q (r_fa fld_api_Value_1 rfl q4) ⟨Fr.refl _ _,rfl⟩
      ·intro ρ w101o F101o hS hρ
       have q7:ρ 7=.pointer (some ⟨b64,1,none⟩):=hS 0 (by decide) 7 rfl
       exact o_q (r_ld one_int q7 ((S64.fr ((G77.trans (Fr.ext F79)).trans (Fr.ext F101o)) sI).now.cell rfl)) ⟨Fr.refl _ _,rfl⟩
      ·intro ρ w101o F101o hS hρ
       have q5:ρ 5=.pointer (some ⟨b71,0,none⟩):=hρ 5 (by kernel_rfl)
       exact o_q (r_fa fld_api_Value_1 rfl q5) ⟨Fr.refl _ _,rfl⟩
      ·intro ρ w101o F101o hS hρ
       have q9:ρ 9=.pointer (some ⟨b71,1,none⟩):=hS 2 (by decide) 9 rfl
       exact o_q (r_ld one_int q9 ((S71.fr (G93.trans (Fr.ext F101o)) sI).now.cell rfl)) ⟨Fr.refl _ _,rfl⟩
      ·intro ρ w101o F101o hS hρ
       have E126:=E87.trans F101o
       have q8:ρ 8=.int .i64 d0.time:=hS 1 (by decide) 8 rfl
       have q10:ρ 10=.int .i64 d1.time:=hS 3 (by decide) 10 rfl
       refine o_call cf_cmp_Compare_int (by simp only [List.map,ev,q8,q10] <;> rfl) (cmp_Compare_int_c d0.time d1.time (((hL.fr E126).cons (((((((B19.ex F27).ex F39).ex F58).ex F64).ex F71).ex F79).ex F101o).lt).cons (B79.ex F101o).lt) hx102) rfl rfl ?_
       rintro _ w' ⟨F,rfl⟩
       exact eo_nil ⟨rfl,rfl,_,rfl,F,rfl⟩
      ·intro ρ w101o F101o hS hρ
       have q4:ρ 4=.pointer (some ⟨b64,0,none⟩):=hρ 4 (by kernel_rfl)
       exact o_q (r_fa fld_api_Value_2 rfl q4) ⟨Fr.refl _ _,rfl⟩
      ·intro ρ w101o F101o hS hρ
       have q12:ρ 12=.pointer (some ⟨b64,2,none⟩):=hS 5 (by decide) 12 rfl
       exact o_q (r_ld one_int q12 ((S64.fr ((G77.trans (Fr.ext F79)).trans (Fr.ext F101o)) sI).now.cell rfl)) ⟨Fr.refl _ _,rfl⟩
      ·intro ρ w101o F101o hS hρ
       have q5:ρ 5=.pointer (some ⟨b71,0,none⟩):=hρ 5 (by kernel_rfl)
       exact o_q (r_fa fld_api_Value_2 rfl q5) ⟨Fr.refl _ _,rfl⟩
      ·intro ρ w101o F101o hS hρ
       have q14:ρ 14=.pointer (some ⟨b71,2,none⟩):=hS 7 (by decide) 14 rfl
       exact o_q (r_ld one_int q14 ((S71.fr (G93.trans (Fr.ext F101o)) sI).now.cell rfl)) ⟨Fr.refl _ _,rfl⟩
      ·intro ρ w101o F101o hS hρ
       have E153:=E87.trans F101o
       have q13:ρ 13=.int .i64 d0.node:=hS 6 (by decide) 13 rfl
       have q15:ρ 15=.int .i64 d1.node:=hS 8 (by decide) 15 rfl
       refine o_call cf_cmp_Compare_int (by simp only [List.map,ev,q13,q15] <;> rfl) (cmp_Compare_int_c d0.node d1.node (((hL.fr E153).cons (((((((B19.ex F27).ex F39).ex F58).ex F64).ex F71).ex F79).ex F101o).lt).cons (B79.ex F101o).lt) hx103) rfl rfl ?_
       rintro _ w' ⟨F,rfl⟩
       exact eo_nil ⟨rfl,rfl,_,rfl,F,rfl⟩
      ·intro ρ w101o F101o hS hρ
       have q4:ρ 4=.pointer (some ⟨b64,0,none⟩):=hρ 4 (by kernel_rfl)
       exact o_q (r_fa fld_api_Value_3 rfl q4) ⟨Fr.refl _ _,rfl⟩
      ·intro ρ w101o F101o hS hρ
       have q17:ρ 17=.pointer (some ⟨b64,3,none⟩):=hS 10 (by decide) 17 rfl
       exact o_q (r_ld one_bool q17 ((S64.fr ((G77.trans (Fr.ext F79)).trans (Fr.ext F101o)) sI).now.cell rfl)) ⟨Fr.refl _ _,rfl⟩
      ·intro ρ w101o F101o hS hρ
       have E171:=E87.trans F101o
       have q18:ρ 18=.bool d0.dead:=hS 11 (by decide) 18 rfl
       refine o_call cf_value_bit (by simp only [List.map,ev,q18] <;> rfl) (value_bit_c d0.dead (((hL.fr E171).cons (((((((B19.ex F27).ex F39).ex F58).ex F64).ex F71).ex F79).ex F101o).lt).cons (B79.ex F101o).lt) hx104) rfl rfl ?_
       rintro _ w' ⟨F,rfl⟩
       exact eo_nil ⟨rfl,rfl,_,rfl,F,rfl⟩
      ·intro ρ w101o F101o hS hρ
       have q5:ρ 5=.pointer (some ⟨b71,0,none⟩):=hρ 5 (by kernel_rfl)
       exact o_q (r_fa fld_api_Value_3 rfl q5) ⟨Fr.refl _ _,rfl⟩
      ·intro ρ w101o F101o hS hρ
       have q20:ρ 20=.pointer (some ⟨b71,3,none⟩):=hS 13 (by decide) 20 rfl
       exact o_q (r_ld one_bool q20 ((S71.fr (G93.trans (Fr.ext F101o)) sI).now.cell rfl)) ⟨Fr.refl _ _,rfl⟩
      ·intro ρ w101o F101o hS hρ
       have E189:=E87.trans F101o
       have q21:ρ 21=.bool d1.dead:=hS 14 (by decide) 21 rfl
       refine o_call cf_value_bit (by simp only [List.map,ev,q21] <;> rfl) (value_bit_c d1.dead (((hL.fr E189).cons (((((((B19.ex F27).ex F39).ex F58).ex F64).ex F71).ex F79).ex F101o).lt).cons (B79.ex F101o).lt) hx105) rfl rfl ?_
       rintro _ w' ⟨F,rfl⟩
       exact eo_nil ⟨rfl,rfl,_,rfl,F,rfl⟩
      ·intro ρ w101o F101o hS hρ
       have q19:ρ 19=.int .i64 x104:=hS 12 (by decide) 19 rfl
       have q22:ρ 22=.int .i64 x105:=hS 15 (by decide) 22 rfl
       exact o_q (r_int q19 q22 rfl) ⟨Fr.refl _ _,rfl⟩
      ·intro ρ w101o F101o hS hρ
       have q4:ρ 4=.pointer (some ⟨b64,0,none⟩):=hρ 4 (by kernel_rfl)
       exact o_q (r_fa fld_api_Value_4 rfl q4) ⟨Fr.refl _ _,rfl⟩
      ·intro ρ w101o F101o hS hρ
       have q24:ρ 24=.pointer (some ⟨b64,4,none⟩):=hS 17 (by decide) 24 rfl
       exact o_q (r_ld one_string q24 ((S64.fr ((G77.trans (Fr.ext F79)).trans (Fr.ext F101o)) sI).now.cell rfl)) ⟨Fr.refl _ _,rfl⟩
      ·intro ρ w101o F101o hS hρ
       have q5:ρ 5=.pointer (some ⟨b71,0,none⟩):=hρ 5 (by kernel_rfl)
       exact o_q (r_fa fld_api_Value_4 rfl q5) ⟨Fr.refl _ _,rfl⟩
      ·intro ρ w101o F101o hS hρ
       have q26:ρ 26=.pointer (some ⟨b71,4,none⟩):=hS 19 (by decide) 26 rfl
       exact o_q (r_ld one_string q26 ((S71.fr (G93.trans (Fr.ext F101o)) sI).now.cell rfl)) ⟨Fr.refl _ _,rfl⟩
      ·intro ρ w101o F101o hS hρ
       have E216:=E87.trans F101o
       have q25:ρ 25=str d0.text:=hS 18 (by decide) 25 rfl
       have q27:ρ 27=str d1.text:=hS 20 (by decide) 27 rfl
       refine o_call cf_cmp_Compare_string (by simp only [List.map,ev,q25,q27] <;> rfl) (cmp_Compare_string_c d0.text d1.text (((hL.fr E216).cons (((((((B19.ex F27).ex F39).ex F58).ex F64).ex F71).ex F79).ex F101o).lt).cons (B79.ex F101o).lt) hx106) rfl rfl ?_
       rintro _ w' ⟨F,rfl⟩
       exact eo_nil ⟨rfl,rfl,_,rfl,F,rfl⟩
      ·intro ρ w101o F101o hS hρ
       have q11:ρ 11=.int .i64 x102:=hS 4 (by decide) 11 rfl
       have q16:ρ 16=.int .i64 x103:=hS 9 (by decide) 16 rfl
       have q23:ρ 23=.int .i64 (IntKind.i64.wrap (x104 - x105)):=hS 16 (by decide) 23 rfl
       have q28:ρ 28=.int .i64 x106:=hS 21 (by decide) 28 rfl
       refine o_bslice slc_s_int rfl (vs:=[.int .i64 x102,.int .i64 x103,.int .i64 (IntKind.i64.wrap (x104 - x105)),.int .i64 x106]) (by simp only [List.map,ev,idx,q11,q16,q23,q28]) rfl rfl (cs:=[.int .i64 x102,.int .i64 x103,.int .i64 (IntKind.i64.wrap (x104 - x105)),.int .i64 x106]) rfl rfl rfl rfl ?_
       intro b w' e F B
       exact eo_nil ⟨rfl,rfl,_,rfl,F,b,rfl,B,by rw [e]; exact F101o.size⟩
      ·intro ρ w101o F101o hS hρ
       have E225:=E87.trans F101o
       obtain ⟨b101_22,q29,B101_22,qB101_22⟩:=hS 22 (by decide) 29 rfl
       refine o_call cf_value_first (by simp only [List.map,ev,q29] <;> rfl) (value_first_c ([x102,x103,(IntKind.i64.wrap (x104 - x105)),x106]:List Int) (bs_seal (ys:=([x102,x103,(IntKind.i64.wrap (x104 - x105)),x106]:List Int)) B101_22 (fun hm=>by have:=hLd101 _ hm; omega) rfl (rowd_cons (cs:=[.int .i64 x102]) (fun _ _=>rfl) rfl (rowd_cons (cs:=[.int .i64 x103]) (fun _ _=>rfl) rfl (rowd_cons (cs:=[.int .i64 (IntKind.i64.wrap (x104 - x105))]) (fun _ _=>rfl) rfl (rowd1 (cs:=[.int .i64 x106]) (fun _ _=>rfl) rfl))))) (((hL.fr E225).cons (((((((B19.ex F27).ex F39).ex F58).ex F64).ex F71).ex F79).ex F101o).lt).cons (B79.ex F101o).lt) hx107) rfl rfl ?_
       rintro _ w' ⟨F,rfl⟩
       exact eo_nil ⟨rfl,rfl,_,rfl,F,rfl⟩
      ·intro ρ w101o F101o hS hρ
       have q30:ρ 30=.int .i64 x107:=hS 23 (by decide) 30 rfl
       exact o_q (r_int q30 rfl rfl) ⟨Fr.refl _ _,rfl⟩
     ·intro ρ w101 F101 hS hρ
      have q31:ρ 31=.bool (decide (x107<0)):=hS 24 31 rfl
      obtain ⟨ρ',rfl⟩:∃ ρ',ρ=envs (ovr [7,8,9,10,11,12,13,14,15,16,17,18,19,20,21,22,23,24,25,26,27,28,29,30,31] ρ' _) [(31,.bool (decide (x107<0)))]:=⟨ρ,ovr_self hρ ⟨q31,trivial⟩⟩
      have E234:=E87.trans F101
      refine sq_n ?_
      refine ec_cond rfl (fun hc243=>?_) (fun hc243=>?_)
      ·replace h:=h.1 hc243
       refine ec_sr ?_
       refine o_w (v:=.agg (cVal d1 A7 c8 A10 c11).toArray) (r_lda agg_api_Value rfl (vs:=(cVal d1 A7 c8 A10 c11)) rfl ((S71.fr (G93.trans (Fr.ext F101)) sI).now.part (n:=8) rfl)) ?_
       refine o_store rfl (B79.ex F101) (vs:=(cVal d1 A7 c8 A10 c11)) rfl sz_api_Value rfl rfl rfl ?_
       intro w244 F244 B244
       have E245:=Ext.st E234 F244 (by simp; omega)
       have G246:Fr L w w244:=(G88.trans (Fr.ext F101)).stp F244 (upc (.inr m81) (fun m hm=>by cases hm))
       have B252:=(((((((B19.ex F27).ex F39).ex F58).ex F64).ex F71).ex F79).ex F101).fr F244 (by simp; omega)
       have B244':Blk w244 b79 _ (cVal d1 A7 c8 A10 c11):=B244
       refine eo_nil_sq ?_
       refine ec_ret ?_
       refine sq_ret ?_
       refine endr1 (v:=.agg (cVal d1 A7 c8 A10 c11).toArray) (rv_a rfl (agg_api_Value) B244' (vs:=(cVal d1 A7 c8 A10 c11)) rfl rfl) ⟨_,rfl,?_⟩
       refine o_alloc zero_api_Value rfl rfl rfl ?_
       intro b253 w253 e253 F253 B253
       have n253:w.heap.size≤b253:=by rw [e253]; exact E245.size
       have q254:b19<b253:=by rw [e253]; exact B252.lt
       have q255:b79<b253:=by rw [e253]; exact B244'.lt
       have m256:w.heap.size≤b253:=by rw [e253]; exact G246.size
       have E262:=E245.trans F253
       refine o_store rfl B253 (vs:=(cVal d1 A7 c8 A10 c11)) rfl sz_api_Value rfl rfl rfl ?_
       intro w271 F271 B271
       have E272:=Ext.st E262 F271 (by simp; omega)
       have G273:Fr L w w271:=(G246.trans (Fr.ext F253)).stp F271 (upc (.inr m256) (fun m hm=>by cases hm))
       have B279:=(B252.ex F253).fr F271 (by simp; omega)
       have B280:=(B244'.ex F253).fr F271 (by simp; omega)
       have B271':Blk w271 b253 _ (cVal d1 A7 c8 A10 c11):=B271
       refine eo_nil_sq ?_
       refine ec_seq ?_
       obtain ⟨x284,hx284,h⟩:=h
       obtain ⟨x288,hx288,h⟩:=h
       have qb283_b253:b253<w271.heap.size:=B271'.lt
       refine ec_anyN (by kernel_rfl) [[],[0],[0,1],[],[3],[0,1,2,3,4],[0,1,2,3,4],[0,1,2,3,4,5,6],[0,1,2,3,4,5,6,7],[0,1,2,3,4,5,6,7,8]] [34,35,36,37,38,39,40,41] (b253::[]) [7,9] [[b253],[b253]] [[7,8,9],[9]] [fun w'=>Blk w' b253 43 (cVal d1 A7 c8 A10 c11),fun w'=>∃ A285 c286,Stb (b253::(b79::(b19::L))) w' (fun w=>SlC (kI .i64) w A285 c286 x284)∧Blk w' b253 43 [.int .i64 d1.kind,.int .i64 d1.time,.int .i64 d1.node,.bool d1.dead,str d1.text,.slice A285 x284.length c286,.slice A10 d1.minus.length c11,.int .u64 d1.flags],fun w'=>∃ A285 c286 A289 c290,Stb (b253::(b79::(b19::L))) w' (fun w=>SlC (kI .i64) w A285 c286 x284)∧Stb (b253::(b79::(b19::L))) w' (fun w=>SlC (kI .i64) w A289 c290 x288)∧Blk w' b253 43 [.int .i64 d1.kind,.int .i64 d1.time,.int .i64 d1.node,.bool d1.dead,str d1.text,.slice A285 x284.length c286,.slice A289 x288.length c290,.int .u64 d1.flags]] [fun v _=>v=(.pointer (some ⟨b253,5,none⟩):Value),fun v _=>v=(.slice A7 d1.plus.length c8:Value),fun v w'=>∃ A285 c286,v=(.slice A285 x284.length c286:Value)∧Stb (b253::(b79::(b19::L))) w' (fun w=>SlC (kI .i64) w A285 c286 x284),fun v _=>v=(.pointer (some ⟨b253,6,none⟩):Value),fun v _=>v=(.slice A10 d1.minus.length c11:Value),fun v w'=>∃ A289 c290,v=(.slice A289 x288.length c290:Value)∧Stb (b253::(b79::(b19::L))) w' (fun w=>SlC (kI .i64) w A289 c290 x288),fun v _=>v=(.pointer (some ⟨b253,5,none⟩):Value),fun _ _=>True,fun v _=>v=(.pointer (some ⟨b253,6,none⟩):Value),fun _ _=>True] (by kernel_rfl) (allM1 (fun m hm=>by first | exact hm | (simp at hm ⊢; simp [hm]; done) | simp_all) (allM1 (fun m hm=>by first | exact hm | (simp at hm ⊢; simp [hm]; done) | simp_all) (fun _ h=>by cases h))) ⟨fun _ _ _ _ _ h=>h,fun _ _ _ _ _ h=>h,fun _ v w' w'' F h=>by obtain ⟨A285,c286,hv,H287⟩:=h; exact ⟨A285,c286,hv,(H287.ex F)⟩,fun _ _ _ _ _ h=>h,fun _ _ _ _ _ h=>h,fun _ v w' w'' F h=>by obtain ⟨A289,c290,hv,H291⟩:=h; exact ⟨A289,c290,hv,(H291.ex F)⟩,fun _ _ _ _ _ h=>h,fun _ _ _ _ _ h=>h,fun _ _ _ _ _ h=>h,fun _ _ _ _ _ h=>h,trivial⟩ ⟨⟨fun _ _ _ _ _ h=>h,fun _ _ _ _ _ h=>h,fun _ v w' w'' F h=>by obtain ⟨A285,c286,hv,H287⟩:=h; exact ⟨A285,c286,hv,(H287.fr F (by simp))⟩,fun _ _ _ _ _ h=>h,fun _ _ _ _ _ h=>h,fun _ v w' w'' F h=>by obtain ⟨A289,c290,hv,H291⟩:=h; exact ⟨A289,c290,hv,(H291.fr F (by simp))⟩,fun _ _ _ _ _ h=>h,(fun h=>absurd h (by decide)),(fun h=>absurd h (by decide)),(fun h=>absurd h (by decide)),trivial⟩,⟨fun _ _ _ _ _ h=>h,fun _ _ _ _ _ h=>h,fun _ v w' w'' F h=>by obtain ⟨A285,c286,hv,H287⟩:=h; exact ⟨A285,c286,hv,(H287.fr F (by simp))⟩,fun _ _ _ _ _ h=>h,fun _ _ _ _ _ h=>h,fun _ v w' w'' F h=>by obtain ⟨A289,c290,hv,H291⟩:=h; exact ⟨A289,c290,hv,(H291.fr F (by simp))⟩,fun _ _ _ _ _ h=>h,fun _ _ _ _ _ h=>h,fun _ _ _ _ _ h=>h,(fun h=>absurd h (by decide)),trivial⟩,trivial⟩ ⟨fun w' w'' F h=>by have hB283_b253:=h; exact (hB283_b253.ex F),fun w' w'' F h=>by obtain ⟨A285,c286,H287,hB283_b253⟩:=h; exact ⟨A285,c286,(H287.ex F),(hB283_b253.ex F)⟩,fun w' w'' F h=>by obtain ⟨A285,c286,A289,c290,H287,H291,hB283_b253⟩:=h; exact ⟨A285,c286,A289,c290,(H287.ex F),(H291.ex F),(hB283_b253.ex F)⟩,trivial⟩ B271' ?_ ?_ ?_
       ·refine ⟨?_,?_,?_,?_,?_,?_,?_,?_,?_,?_,trivial⟩
        ·intro _ ρ w283o F283o hX hS hρ
         have F283o:=hX 7 rfl rfl
         have q8:ρ 8=.pointer (some ⟨b253,0,none⟩):=hρ 8 (by kernel_rfl)
         exact o_q (r_fa fld_api_Value_5 rfl q8) ⟨Fr.refl _ _,rfl⟩
        ·intro _ ρ w283o F283o hX hS hρ
         have F283o:=hX 7 rfl rfl
         have q34:ρ 34=.pointer (some ⟨b253,5,none⟩):=hS 0 (by decide) 34 rfl
         exact o_q (r_ld one_s_int q34 ((B271'.ex F283o).cell rfl)) ⟨Fr.refl _ _,rfl⟩
        ·intro _ ρ w283o F283o hX hS hρ
         have F283o:=hX 7 rfl rfl
         have E302:=E272.trans F283o
         have q35:ρ 35=.slice A7 d1.plus.length c8:=hS 1 (by decide) 35 rfl
         refine o_call cf_slices_Clone_int (by simp only [List.map,ev,q35] <;> rfl) (slices_Clone_int_c d1.plus (H9.up (G273.trans (Fr.ext F283o)) sI (upc (.inr m256) (upc (.inr m81) (upc (.inr m20) (fun _ h=>.inl h))))) ((((hL.fr E302).cons (B279.ex F283o).lt).cons (B280.ex F283o).lt).cons (B271'.ex F283o).lt) hx284) rfl rfl ?_
         intro v' w' hv'
         obtain ⟨F,O,Nn⟩:=hv'
         obtain ⟨A285,c286,ev,H287⟩:=O.still
         subst ev
         exact eo_nil ⟨rfl,rfl,_,rfl,F,⟨A285,c286,rfl,H287⟩⟩
        ·intro _ ρ w283o F283o hX hS hρ
         have F283o:=hX 7 rfl rfl
         have q8:ρ 8=.pointer (some ⟨b253,0,none⟩):=hρ 8 (by kernel_rfl)
         exact o_q (r_fa fld_api_Value_6 rfl q8) ⟨Fr.refl _ _,rfl⟩
        ·intro _ ρ w283o F283o hX hS hρ
         have F283o:=hX 7 rfl rfl
         have q37:ρ 37=.pointer (some ⟨b253,6,none⟩):=hS 3 (by decide) 37 rfl
         exact o_q (r_ld one_s_int q37 ((B271'.ex F283o).cell rfl)) ⟨Fr.refl _ _,rfl⟩
        ·intro _ ρ w283o F283o hX hS hρ
         have F283o:=hX 7 rfl rfl
         have E322:=E272.trans F283o
         have q38:ρ 38=.slice A10 d1.minus.length c11:=hS 4 (by decide) 38 rfl
         refine o_call cf_slices_Clone_int (by simp only [List.map,ev,q38] <;> rfl) (slices_Clone_int_c d1.minus (H12.up (G273.trans (Fr.ext F283o)) sI (upc (.inr m256) (upc (.inr m81) (upc (.inr m20) (fun _ h=>.inl h))))) ((((hL.fr E322).cons (B279.ex F283o).lt).cons (B280.ex F283o).lt).cons (B271'.ex F283o).lt) hx288) rfl rfl ?_
         intro v' w' hv'
         obtain ⟨F,O,Nn⟩:=hv'
         obtain ⟨A289,c290,ev,H291⟩:=O.still
         subst ev
         exact eo_nil ⟨rfl,rfl,_,rfl,F,⟨A289,c290,rfl,H291⟩⟩
        ·intro _ ρ w283o F283o hX hS hρ
         have F283o:=hX 7 rfl rfl
         have q8:ρ 8=.pointer (some ⟨b253,0,none⟩):=hρ 8 (by kernel_rfl)
         exact o_q (r_fa fld_api_Value_5 rfl q8) ⟨Fr.refl _ _,rfl⟩
        ·intro hT; exact absurd hT (by decide)
        ·intro _ ρ w283o F283o hX hS hρ
         have q8:ρ 8=.pointer (some ⟨b253,0,none⟩):=hρ 8 (by kernel_rfl)
         exact o_q (r_fa fld_api_Value_6 rfl q8) ⟨Fr.refl _ _,rfl⟩
        ·intro hT; exact absurd hT (by decide)
       ·refine ⟨⟨_,rfl,?_⟩,⟨_,rfl,?_⟩,trivial⟩
        ·intro ρ w283o F283o hX hI hS hρ
         have F283o:=hX rfl
         have hB283_b253:=hI
         obtain ⟨A285,c286,q36,H287⟩:=hS 2 (by decide) 36 rfl
         have q40:ρ 40=.pointer (some ⟨b253,5,none⟩):=hS 6 (by decide) 40 rfl
         refine o_store (show ev ρ _=_ from q40) hB283_b253 (vs:=[.slice A285 x284.length c286]) (congrArg Value.cells q36) sz_s_int rfl rfl rfl ?_
         intro w' F B2
         exact eo_nil ⟨rfl,rfl,undef,rfl,F,⟨A285,c286,(H287.fr F (by simp)),B2⟩,trivial⟩
        ·intro ρ w283o F283o hX hI hS hρ
         obtain ⟨A285,c286,H287,hB283_b253⟩:=hI
         obtain ⟨A289,c290,q39,H291⟩:=hS 5 (by decide) 39 rfl
         have q41:ρ 41=.pointer (some ⟨b253,6,none⟩):=hS 8 (by decide) 41 rfl
         refine o_store (show ev ρ _=_ from q41) hB283_b253 (vs:=[.slice A289 x288.length c290]) (congrArg Value.cells q39) sz_s_int rfl rfl rfl ?_
         intro w' F B2
         exact eo_nil ⟨rfl,rfl,undef,rfl,F,⟨A285,c286,A289,c290,(H287.fr F (by simp)),(H291.fr F (by simp)),B2⟩,trivial⟩
       ·intro ρ w283 F283 hI hS hρ
        obtain ⟨A285,c286,A289,c290,H287,H291,hB283_b253⟩:=hI
        obtain ⟨ρ',rfl⟩:∃ ρ',ρ=envs (ovr [34,35,36,37,38,39,40,41] ρ' _) []:=⟨ρ,ovr_self hρ trivial⟩
        have E351:Ext w w283:=Ext.st E272 F283 (upc n253 (fun m hm=>by cases hm))
        have B358:=B279.fr F283 (fun hm=>(show ∀ m∈_,m≠b19 from (upc (by omega) (fun m hm=>by cases hm))) _ hm rfl)
        have Z283:=Fr.refl (b253::(b79::(b19::L))) w283
        refine sq_n ?_
        refine ec_sr ?_
        refine o_w (v:=.agg #[.int .i64 d1.kind,.int .i64 d1.time,.int .i64 d1.node,.bool d1.dead,str d1.text,.slice A285 x284.length c286,.slice A289 x288.length c290,.int .u64 d1.flags]) (r_lda agg_api_Value rfl (vs:=[.int .i64 d1.kind,.int .i64 d1.time,.int .i64 d1.node,.bool d1.dead,str d1.text,.slice A285 x284.length c286,.slice A289 x288.length c290,.int .u64 d1.flags]) rfl (hB283_b253.part (n:=8) rfl)) ?_
        refine o_store rfl B358 (vs:=[.int .i64 d1.kind,.int .i64 d1.time,.int .i64 d1.node,.bool d1.dead,str d1.text,.slice A285 x284.length c286,.slice A289 x288.length c290,.int .u64 d1.flags]) rfl sz_api_Value rfl rfl rfl ?_
        intro w360 F360 B360
        have E361:=Ext.st E351 F360 (by simp; omega)
        have G368:Fr (b253::(b79::(b19::L))) w283 w360:=Z283.stp F360 (upc (.inl (mT (mT mH))) (fun m hm=>by cases hm))
        have B360':Blk w360 b19 _ [.int .i64 d1.kind,.int .i64 d1.time,.int .i64 d1.node,.bool d1.dead,str d1.text,.slice A285 x284.length c286,.slice A289 x288.length c290,.int .u64 d1.flags]:=B360
        refine o_w (v:=.int .i64 0) (r_asg rfl) ?_
        refine eo_nil_sq ?_
        refine ec_ret ?_
        subst h
        exact (endr2 (rv_a rfl (agg_api_Value) B360' (vs:=[.int .i64 d1.kind,.int .i64 d1.time,.int .i64 d1.node,.bool d1.dead,str d1.text,.slice A285 x284.length c286,.slice A289 x288.length c290,.int .u64 d1.flags]) rfl rfl) (rv_t rfl) ⟨_,rfl,E361,_,rfl,(kVal_mk (d:=(⟨d1.kind,d1.time,d1.node,d1.dead,d1.text,x284,x288,d1.flags⟩:Val)) (H287.up G368 sI (fun m hm=>Or.inl (mT (mT (mT hm))))) (H291.up G368 sI (fun m hm=>Or.inl (mT (mT (mT hm))))))⟩)
      ·replace h:=h.2 hc243
       refine ec_skip ?_
       refine sq_n ?_
       refine ec_sr ?_
       refine o_w (v:=.agg (cVal d0 A1 c2 A4 c5).toArray) (r_lda agg_api_Value rfl (vs:=(cVal d0 A1 c2 A4 c5)) rfl ((S64.fr ((G77.trans (Fr.ext F79)).trans (Fr.ext F101)) sI).now.part (n:=8) rfl)) ?_
       refine o_store rfl (B79.ex F101) (vs:=(cVal d0 A1 c2 A4 c5)) rfl sz_api_Value rfl rfl rfl ?_
       intro w371 F371 B371
       have E372:=Ext.st E234 F371 (by simp; omega)
       have G373:Fr L w w371:=(G88.trans (Fr.ext F101)).stp F371 (upc (.inr m81) (fun m hm=>by cases hm))
       have B379:=(((((((B19.ex F27).ex F39).ex F58).ex F64).ex F71).ex F79).ex F101).fr F371 (by simp; omega)
       have B371':Blk w371 b79 _ (cVal d0 A1 c2 A4 c5):=B371
       refine eo_nil_sq ?_
       refine ec_ret ?_
       refine endr1 (v:=.agg (cVal d0 A1 c2 A4 c5).toArray) (rv_a rfl (agg_api_Value) B371' (vs:=(cVal d0 A1 c2 A4 c5)) rfl rfl) ⟨_,rfl,?_⟩
       refine o_alloc zero_api_Value rfl rfl rfl ?_
       intro b380 w380 e380 F380 B380
       have n380:w.heap.size≤b380:=by rw [e380]; exact E372.size
       have q381:b19<b380:=by rw [e380]; exact B379.lt
       have q382:b79<b380:=by rw [e380]; exact B371'.lt
       have m383:w.heap.size≤b380:=by rw [e380]; exact G373.size
       have E389:=E372.trans F380
       refine o_store rfl B380 (vs:=(cVal d0 A1 c2 A4 c5)) rfl sz_api_Value rfl rfl rfl ?_
       intro w398 F398 B398
       have E399:=Ext.st E389 F398 (by simp; omega)
       have G400:Fr L w w398:=(G373.trans (Fr.ext F380)).stp F398 (upc (.inr m383) (fun m hm=>by cases hm))
       have B406:=(B379.ex F380).fr F398 (by simp; omega)
       have B407:=(B371'.ex F380).fr F398 (by simp; omega)
       have B398':Blk w398 b380 _ (cVal d0 A1 c2 A4 c5):=B398
       refine eo_nil_sq ?_
       refine ec_seq ?_
       obtain ⟨x411,hx411,h⟩:=h
       obtain ⟨x415,hx415,h⟩:=h
       have qb410_b380:b380<w398.heap.size:=B398'.lt
       refine ec_anyN (by kernel_rfl) [[],[0],[0,1],[],[3],[0,1,2,3,4],[0,1,2,3,4],[0,1,2,3,4,5,6],[0,1,2,3,4,5,6,7],[0,1,2,3,4,5,6,7,8]] [34,35,36,37,38,39,40,41] (b380::[]) [7,9] [[b380],[b380]] [[7,8,9],[9]] [fun w'=>Blk w' b380 43 (cVal d0 A1 c2 A4 c5),fun w'=>∃ A412 c413,Stb (b380::(b79::(b19::L))) w' (fun w=>SlC (kI .i64) w A412 c413 x411)∧Blk w' b380 43 [.int .i64 d0.kind,.int .i64 d0.time,.int .i64 d0.node,.bool d0.dead,str d0.text,.slice A412 x411.length c413,.slice A4 d0.minus.length c5,.int .u64 d0.flags],fun w'=>∃ A412 c413 A416 c417,Stb (b380::(b79::(b19::L))) w' (fun w=>SlC (kI .i64) w A412 c413 x411)∧Stb (b380::(b79::(b19::L))) w' (fun w=>SlC (kI .i64) w A416 c417 x415)∧Blk w' b380 43 [.int .i64 d0.kind,.int .i64 d0.time,.int .i64 d0.node,.bool d0.dead,str d0.text,.slice A412 x411.length c413,.slice A416 x415.length c417,.int .u64 d0.flags]] [fun v _=>v=(.pointer (some ⟨b380,5,none⟩):Value),fun v _=>v=(.slice A1 d0.plus.length c2:Value),fun v w'=>∃ A412 c413,v=(.slice A412 x411.length c413:Value)∧Stb (b380::(b79::(b19::L))) w' (fun w=>SlC (kI .i64) w A412 c413 x411),fun v _=>v=(.pointer (some ⟨b380,6,none⟩):Value),fun v _=>v=(.slice A4 d0.minus.length c5:Value),fun v w'=>∃ A416 c417,v=(.slice A416 x415.length c417:Value)∧Stb (b380::(b79::(b19::L))) w' (fun w=>SlC (kI .i64) w A416 c417 x415),fun v _=>v=(.pointer (some ⟨b380,5,none⟩):Value),fun _ _=>True,fun v _=>v=(.pointer (some ⟨b380,6,none⟩):Value),fun _ _=>True] (by kernel_rfl) (allM1 (fun m hm=>by first | exact hm | (simp at hm ⊢; simp [hm]; done) | simp_all) (allM1 (fun m hm=>by first | exact hm | (simp at hm ⊢; simp [hm]; done) | simp_all) (fun _ h=>by cases h))) ⟨fun _ _ _ _ _ h=>h,fun _ _ _ _ _ h=>h,fun _ v w' w'' F h=>by obtain ⟨A412,c413,hv,H414⟩:=h; exact ⟨A412,c413,hv,(H414.ex F)⟩,fun _ _ _ _ _ h=>h,fun _ _ _ _ _ h=>h,fun _ v w' w'' F h=>by obtain ⟨A416,c417,hv,H418⟩:=h; exact ⟨A416,c417,hv,(H418.ex F)⟩,fun _ _ _ _ _ h=>h,fun _ _ _ _ _ h=>h,fun _ _ _ _ _ h=>h,fun _ _ _ _ _ h=>h,trivial⟩ ⟨⟨fun _ _ _ _ _ h=>h,fun _ _ _ _ _ h=>h,fun _ v w' w'' F h=>by obtain ⟨A412,c413,hv,H414⟩:=h; exact ⟨A412,c413,hv,(H414.fr F (by simp))⟩,fun _ _ _ _ _ h=>h,fun _ _ _ _ _ h=>h,fun _ v w' w'' F h=>by obtain ⟨A416,c417,hv,H418⟩:=h; exact ⟨A416,c417,hv,(H418.fr F (by simp))⟩,fun _ _ _ _ _ h=>h,(fun h=>absurd h (by decide)),(fun h=>absurd h (by decide)),(fun h=>absurd h (by decide)),trivial⟩,⟨fun _ _ _ _ _ h=>h,fun _ _ _ _ _ h=>h,fun _ v w' w'' F h=>by obtain ⟨A412,c413,hv,H414⟩:=h; exact ⟨A412,c413,hv,(H414.fr F (by simp))⟩,fun _ _ _ _ _ h=>h,fun _ _ _ _ _ h=>h,fun _ v w' w'' F h=>by obtain ⟨A416,c417,hv,H418⟩:=h; exact ⟨A416,c417,hv,(H418.fr F (by simp))⟩,fun _ _ _ _ _ h=>h,fun _ _ _ _ _ h=>h,fun _ _ _ _ _ h=>h,(fun h=>absurd h (by decide)),trivial⟩,trivial⟩ ⟨fun w' w'' F h=>by have hB410_b380:=h; exact (hB410_b380.ex F),fun w' w'' F h=>by obtain ⟨A412,c413,H414,hB410_b380⟩:=h; exact ⟨A412,c413,(H414.ex F),(hB410_b380.ex F)⟩,fun w' w'' F h=>by obtain ⟨A412,c413,A416,c417,H414,H418,hB410_b380⟩:=h; exact ⟨A412,c413,A416,c417,(H414.ex F),(H418.ex F),(hB410_b380.ex F)⟩,trivial⟩ B398' ?_ ?_ ?_
       ·refine ⟨?_,?_,?_,?_,?_,?_,?_,?_,?_,?_,trivial⟩
        ·intro _ ρ w410o F410o hX hS hρ
         have F410o:=hX 7 rfl rfl
         have q8:ρ 8=.pointer (some ⟨b380,0,none⟩):=hρ 8 (by kernel_rfl)
         exact o_q (r_fa fld_api_Value_5 rfl q8) ⟨Fr.refl _ _,rfl⟩
        ·intro _ ρ w410o F410o hX hS hρ
         have F410o:=hX 7 rfl rfl
         have q34:ρ 34=.pointer (some ⟨b380,5,none⟩):=hS 0 (by decide) 34 rfl
         exact o_q (r_ld one_s_int q34 ((B398'.ex F410o).cell rfl)) ⟨Fr.refl _ _,rfl⟩
        ·intro _ ρ w410o F410o hX hS hρ
         have F410o:=hX 7 rfl rfl
         have E429:=E399.trans F410o
         have q35:ρ 35=.slice A1 d0.plus.length c2:=hS 1 (by decide) 35 rfl
         refine o_call cf_slices_Clone_int (by simp only [List.map,ev,q35] <;> rfl) (slices_Clone_int_c d0.plus (H3.up (G400.trans (Fr.ext F410o)) sI (upc (.inr m383) (upc (.inr m81) (upc (.inr m20) (fun _ h=>.inl h))))) ((((hL.fr E429).cons (B406.ex F410o).lt).cons (B407.ex F410o).lt).cons (B398'.ex F410o).lt) hx411) rfl rfl ?_
         intro v' w' hv'
         obtain ⟨F,O,Nn⟩:=hv'
         obtain ⟨A412,c413,ev,H414⟩:=O.still
         subst ev
         exact eo_nil ⟨rfl,rfl,_,rfl,F,⟨A412,c413,rfl,H414⟩⟩
        ·intro _ ρ w410o F410o hX hS hρ
         have F410o:=hX 7 rfl rfl
         have q8:ρ 8=.pointer (some ⟨b380,0,none⟩):=hρ 8 (by kernel_rfl)
         exact o_q (r_fa fld_api_Value_6 rfl q8) ⟨Fr.refl _ _,rfl⟩
        ·intro _ ρ w410o F410o hX hS hρ
         have F410o:=hX 7 rfl rfl
         have q37:ρ 37=.pointer (some ⟨b380,6,none⟩):=hS 3 (by decide) 37 rfl
         exact o_q (r_ld one_s_int q37 ((B398'.ex F410o).cell rfl)) ⟨Fr.refl _ _,rfl⟩
        ·intro _ ρ w410o F410o hX hS hρ
         have F410o:=hX 7 rfl rfl
         have E449:=E399.trans F410o
         have q38:ρ 38=.slice A4 d0.minus.length c5:=hS 4 (by decide) 38 rfl
         refine o_call cf_slices_Clone_int (by simp only [List.map,ev,q38] <;> rfl) (slices_Clone_int_c d0.minus (H6.up (G400.trans (Fr.ext F410o)) sI (upc (.inr m383) (upc (.inr m81) (upc (.inr m20) (fun _ h=>.inl h))))) ((((hL.fr E449).cons (B406.ex F410o).lt).cons (B407.ex F410o).lt).cons (B398'.ex F410o).lt) hx415) rfl rfl ?_
         intro v' w' hv'
         obtain ⟨F,O,Nn⟩:=hv'
         obtain ⟨A416,c417,ev,H418⟩:=O.still
         subst ev
         exact eo_nil ⟨rfl,rfl,_,rfl,F,⟨A416,c417,rfl,H418⟩⟩
        ·intro _ ρ w410o F410o hX hS hρ
         have F410o:=hX 7 rfl rfl
         have q8:ρ 8=.pointer (some ⟨b380,0,none⟩):=hρ 8 (by kernel_rfl)
         exact o_q (r_fa fld_api_Value_5 rfl q8) ⟨Fr.refl _ _,rfl⟩
        ·intro hT; exact absurd hT (by decide)
        ·intro _ ρ w410o F410o hX hS hρ
         have q8:ρ 8=.pointer (some ⟨b380,0,none⟩):=hρ 8 (by kernel_rfl)
         exact o_q (r_fa fld_api_Value_6 rfl q8) ⟨Fr.refl _ _,rfl⟩
        ·intro hT; exact absurd hT (by decide)
       ·refine ⟨⟨_,rfl,?_⟩,⟨_,rfl,?_⟩,trivial⟩
        ·intro ρ w410o F410o hX hI hS hρ
         have F410o:=hX rfl
         have hB410_b380:=hI
         obtain ⟨A412,c413,q36,H414⟩:=hS 2 (by decide) 36 rfl
         have q40:ρ 40=.pointer (some ⟨b380,5,none⟩):=hS 6 (by decide) 40 rfl
         refine o_store (show ev ρ _=_ from q40) hB410_b380 (vs:=[.slice A412 x411.length c413]) (congrArg Value.cells q36) sz_s_int rfl rfl rfl ?_
         intro w' F B2
         exact eo_nil ⟨rfl,rfl,undef,rfl,F,⟨A412,c413,(H414.fr F (by simp)),B2⟩,trivial⟩
        ·intro ρ w410o F410o hX hI hS hρ
         obtain ⟨A412,c413,H414,hB410_b380⟩:=hI
         obtain ⟨A416,c417,q39,H418⟩:=hS 5 (by decide) 39 rfl
         have q41:ρ 41=.pointer (some ⟨b380,6,none⟩):=hS 8 (by decide) 41 rfl
         refine o_store (show ev ρ _=_ from q41) hB410_b380 (vs:=[.slice A416 x415.length c417]) (congrArg Value.cells q39) sz_s_int rfl rfl rfl ?_
         intro w' F B2
         exact eo_nil ⟨rfl,rfl,undef,rfl,F,⟨A412,c413,A416,c417,(H414.fr F (by simp)),(H418.fr F (by simp)),B2⟩,trivial⟩
       ·intro ρ w410 F410 hI hS hρ
        obtain ⟨A412,c413,A416,c417,H414,H418,hB410_b380⟩:=hI
        obtain ⟨ρ',rfl⟩:∃ ρ',ρ=envs (ovr [34,35,36,37,38,39,40,41] ρ' _) []:=⟨ρ,ovr_self hρ trivial⟩
        have E478:Ext w w410:=Ext.st E399 F410 (upc n380 (fun m hm=>by cases hm))
        have B485:=B406.fr F410 (fun hm=>(show ∀ m∈_,m≠b19 from (upc (by omega) (fun m hm=>by cases hm))) _ hm rfl)
        have Z410:=Fr.refl (b380::(b79::(b19::L))) w410
        refine sq_n ?_
        refine ec_sr ?_
        refine o_w (v:=.agg #[.int .i64 d0.kind,.int .i64 d0.time,.int .i64 d0.node,.bool d0.dead,str d0.text,.slice A412 x411.length c413,.slice A416 x415.length c417,.int .u64 d0.flags]) (r_lda agg_api_Value rfl (vs:=[.int .i64 d0.kind,.int .i64 d0.time,.int .i64 d0.node,.bool d0.dead,str d0.text,.slice A412 x411.length c413,.slice A416 x415.length c417,.int .u64 d0.flags]) rfl (hB410_b380.part (n:=8) rfl)) ?_
        refine o_store rfl B485 (vs:=[.int .i64 d0.kind,.int .i64 d0.time,.int .i64 d0.node,.bool d0.dead,str d0.text,.slice A412 x411.length c413,.slice A416 x415.length c417,.int .u64 d0.flags]) rfl sz_api_Value rfl rfl rfl ?_
        intro w487 F487 B487
        have E488:=Ext.st E478 F487 (by simp; omega)
        have G495:Fr (b380::(b79::(b19::L))) w410 w487:=Z410.stp F487 (upc (.inl (mT (mT mH))) (fun m hm=>by cases hm))
        have B487':Blk w487 b19 _ [.int .i64 d0.kind,.int .i64 d0.time,.int .i64 d0.node,.bool d0.dead,str d0.text,.slice A412 x411.length c413,.slice A416 x415.length c417,.int .u64 d0.flags]:=B487
        refine o_w (v:=.int .i64 0) (r_asg rfl) ?_
        refine eo_nil_sq ?_
        refine ec_ret ?_
        subst h
        exact (endr2 (rv_a rfl (agg_api_Value) B487' (vs:=[.int .i64 d0.kind,.int .i64 d0.time,.int .i64 d0.node,.bool d0.dead,str d0.text,.slice A412 x411.length c413,.slice A416 x415.length c417,.int .u64 d0.flags]) rfl rfl) (rv_t rfl) ⟨_,rfl,E488,_,rfl,(kVal_mk (d:=(⟨d0.kind,d0.time,d0.node,d0.dead,d0.text,x411,x415,d0.flags⟩:Val)) (H414.up G495 sI (fun m hm=>Or.inl (mT (mT (mT hm))))) (H418.up G495 sI (fun m hm=>Or.inl (mT (mT (mT hm))))))⟩)
    ·replace h:=h.2 hc57
     refine ec_sr ?_
     refine o_w (v:=.bool (d0.kind==2)) (r_int rfl rfl rfl) ?_
     refine o_w (v:=.bool (d0.kind==2)) (r_asg rfl) ?_
     refine eo_nil_sq ?_
     refine ec_cond rfl (fun hc498=>?_) (fun hc498=>?_)
     ·replace h:=h.1 hc498
      refine ec_sr ?_
      refine o_w (v:=.agg #[]) (r_build bld_value_counter (vs:=[]) (cells:=[]) rfl rfl) ?_
      refine o_w (v:=.iface 148 (.agg #[])) (r_mkif conc_value_counter rfl) ?_
      refine o_w (v:=.iface 148 (.agg #[])) (r_asg rfl) ?_
      refine o_w (v:=.bool true) (r_asg rfl) ?_
      refine eo_nil_sq ?_
      refine ec_ret ?_
      refine blk_ret ?_
      refine sq_ret ?_
      refine end2 (v:=.iface 148 (.agg #[])) (x:=.bool true) rfl rfl ⟨_,rfl,?_⟩
      refine o_w (v:=.tuple #[.iface 148 (.agg #[]),.bool true]) (r_mov rfl) ?_
      refine o_w (v:=.iface 148 (.agg #[])) (r_ext rfl rfl) ?_
      refine o_w (v:=.bool true) (r_ext rfl rfl) ?_
      refine o_w (v:=.iface 148 (.agg #[])) (r_asg rfl) ?_
      refine o_w (v:=.bool true) (r_asg rfl) ?_
      refine eo_r ?_
      refine o_w (v:=.iface 148 (.agg #[])) (r_mov rfl) ?_
      refine o_w (v:=.agg (cVal d0 A1 c2 A4 c5).toArray) (r_lda agg_api_Value rfl (vs:=(cVal d0 A1 c2 A4 c5)) rfl ((S13.fr (((G18.trans (Fr.ext F19)).trans (Fr.ext F27)).trans (Fr.ext F39)) sI).now.part (n:=8) rfl)) ?_
      refine o_w (v:=.agg (cVal d1 A7 c8 A10 c11).toArray) (r_lda agg_api_Value rfl (vs:=(cVal d1 A7 c8 A10 c11)) rfl ((S15.fr ((G26.trans (Fr.ext F27)).trans (Fr.ext F39)) sI).now.part (n:=8) rfl)) ?_
      refine o_inlI (vs:=[.agg (cVal d0 A1 c2 A4 c5).toArray,.agg (cVal d1 A7 c8 A10 c11).toArray]) mf_value_counter_ouroboros_value_join rfl rfl rfl rfl ?_
      refine calls_ec Tryz.func162 rfl rfl rfl ?_
      refine ec_sr ?_
      refine o_box (cs:=[]) rfl rfl rfl ?_
      intro b499 w499 e499 F499 B499
      have E500:=E40.trans F499
      refine o_box (cs:=(cVal d0 A1 c2 A4 c5)) rfl rfl rfl ?_
      intro b505 w505 e505 F505 B505
      have n505:w.heap.size≤b505:=by rw [e505]; exact E500.size
      have q506:b19<b505:=by rw [e505]; exact (((B19.ex F27).ex F39).ex F499).lt
      have m507:w.heap.size≤b505:=by rw [e505]; exact (G41.trans (Fr.ext F499)).size
      have E511:=E500.trans F505
      refine o_box (cs:=(cVal d1 A7 c8 A10 c11)) rfl rfl rfl ?_
      intro b517 w517 e517 F517 B517
      have S517:=B517.stb (nin (((hL.fr E511).cons ((((B19.ex F27).ex F39).ex F499).ex F505).lt).cons B505.lt) e517)
      have E518:=E511.trans F517
      refine o_alloc zero_api_Value rfl rfl rfl ?_
      intro b525 w525 e525 F525 B525
      have n525:w.heap.size≤b525:=by rw [e525]; exact E518.size
      have q526:b19<b525:=by rw [e525]; exact (((((B19.ex F27).ex F39).ex F499).ex F505).ex F517).lt
      have q527:b505<b525:=by rw [e525]; exact (B505.ex F517).lt
      have m528:w.heap.size≤b525:=by rw [e525]; exact (((G41.trans (Fr.ext F499)).trans (Fr.ext F505)).trans (Fr.ext F517)).size
      have E533:=E518.trans F525
      have G534:=(((G41.trans (Fr.ext F499)).trans (Fr.ext F505)).trans (Fr.ext F517)).trans (Fr.ext F525)
      have G538:Fr (b505::(b19::L)) w517 w525:=Fr.ext F525
      refine eo_r ?_
      refine o_w (v:=.func (.func 167) #[] #[]) (r_asg rfl) ?_
      refine eo_nil_sq ?_
      refine ec_seq ?_
      obtain ⟨x544,hx544,h⟩:=h
      obtain ⟨x548,hx548,h⟩:=h
      have qb543_b505:b505<w525.heap.size:=((B505.ex F517).ex F525).lt
      refine ec_anyN (by kernel_rfl) [[],[],[1],[],[3],[0,1,2,3,4],[],[],[7],[],[9],[0,1,2,3,4,5,6,7,8,9,10],[0,1,2,3,4,5,7,8],[0,1,2,3,4,5,6,7,8,9,10,11,12],[0,1,2,3,4,5,6,7,8,9,10,11,12,13],[0,1,2,3,4,5,6,7,8,9,10,11,12,13,14]] [8,9,10,11,12,13,14,15,16,17,18,19,20,21] (b505::[]) [13,15] [[b505],[b505]] [[13,14,15],[15]] [fun w'=>Blk w' b505 43 (cVal d0 A1 c2 A4 c5),fun w'=>∃ A545 c546,Stb (b525::(b505::(b19::L))) w' (fun w=>SlC (kI .i64) w A545 c546 x544)∧Blk w' b505 43 [.int .i64 d0.kind,.int .i64 d0.time,.int .i64 d0.node,.bool d0.dead,str d0.text,.slice A545 x544.length c546,.slice A4 d0.minus.length c5,.int .u64 d0.flags],fun w'=>∃ A545 c546 A549 c550,Stb (b525::(b505::(b19::L))) w' (fun w=>SlC (kI .i64) w A545 c546 x544)∧Stb (b525::(b505::(b19::L))) w' (fun w=>SlC (kI .i64) w A549 c550 x548)∧Blk w' b505 43 [.int .i64 d0.kind,.int .i64 d0.time,.int .i64 d0.node,.bool d0.dead,str d0.text,.slice A545 x544.length c546,.slice A549 x548.length c550,.int .u64 d0.flags]] [fun v _=>v=(.func (.func 167) #[] #[]:Value),fun v _=>v=(.pointer (some ⟨b505,5,none⟩):Value),fun v _=>v=(.slice A1 d0.plus.length c2:Value),fun v _=>v=(.pointer (some ⟨b517,5,none⟩):Value),fun v _=>v=(.slice A7 d1.plus.length c8:Value),fun v w'=>∃ A545 c546,v=(.slice A545 x544.length c546:Value)∧Stb (b525::(b505::(b19::L))) w' (fun w=>SlC (kI .i64) w A545 c546 x544),fun v _=>v=(.func (.func 167) #[] #[]:Value),fun v _=>v=(.pointer (some ⟨b505,6,none⟩):Value),fun v _=>v=(.slice A4 d0.minus.length c5:Value),fun v _=>v=(.pointer (some ⟨b517,6,none⟩):Value),fun v _=>v=(.slice A10 d1.minus.length c11:Value),fun v w'=>∃ A549 c550,v=(.slice A549 x548.length c550:Value)∧Stb (b525::(b505::(b19::L))) w' (fun w=>SlC (kI .i64) w A549 c550 x548),fun v _=>v=(.pointer (some ⟨b505,5,none⟩):Value),fun _ _=>True,fun v _=>v=(.pointer (some ⟨b505,6,none⟩):Value),fun _ _=>True] (by kernel_rfl) (allM1 (fun m hm=>by first | exact hm | (simp at hm ⊢; simp [hm]; done) | simp_all) (allM1 (fun m hm=>by first | exact hm | (simp at hm ⊢; simp [hm]; done) | simp_all) (fun _ h=>by cases h))) ⟨fun _ _ _ _ _ h=>h,fun _ _ _ _ _ h=>h,fun _ _ _ _ _ h=>h,fun _ _ _ _ _ h=>h,fun _ _ _ _ _ h=>h,fun _ v w' w'' F h=>by obtain ⟨A545,c546,hv,H547⟩:=h; exact ⟨A545,c546,hv,(H547.ex F)⟩,fun _ _ _ _ _ h=>h,fun _ _ _ _ _ h=>h,fun _ _ _ _ _ h=>h,fun _ _ _ _ _ h=>h,fun _ _ _ _ _ h=>h,fun _ v w' w'' F h=>by obtain ⟨A549,c550,hv,H551⟩:=h; exact ⟨A549,c550,hv,(H551.ex F)⟩,fun _ _ _ _ _ h=>h,fun _ _ _ _ _ h=>h,fun _ _ _ _ _ h=>h,fun _ _ _ _ _ h=>h,trivial⟩ ⟨⟨fun _ _ _ _ _ h=>h,fun _ _ _ _ _ h=>h,fun _ _ _ _ _ h=>h,fun _ _ _ _ _ h=>h,fun _ _ _ _ _ h=>h,fun _ v w' w'' F h=>by obtain ⟨A545,c546,hv,H547⟩:=h; exact ⟨A545,c546,hv,(H547.fr F (by simp))⟩,fun _ _ _ _ _ h=>h,fun _ _ _ _ _ h=>h,fun _ _ _ _ _ h=>h,fun _ _ _ _ _ h=>h,fun _ _ _ _ _ h=>h,fun _ v w' w'' F h=>by obtain ⟨A549,c550,hv,H551⟩:=h; exact ⟨A549,c550,hv,(H551.fr F (by simp))⟩,fun _ _ _ _ _ h=>h,(fun h=>absurd h (by decide)),(fun h=>absurd h (by decide)),(fun h=>absurd h (by decide)),trivial⟩,⟨fun _ _ _ _ _ h=>h,fun _ _ _ _ _ h=>h,fun _ _ _ _ _ h=>h,fun _ _ _ _ _ h=>h,fun _ _ _ _ _ h=>h,fun _ v w' w'' F h=>by obtain ⟨A545,c546,hv,H547⟩:=h; exact ⟨A545,c546,hv,(H547.fr F (by simp))⟩,fun _ _ _ _ _ h=>h,fun _ _ _ _ _ h=>h,fun _ _ _ _ _ h=>h,fun _ _ _ _ _ h=>h,fun _ _ _ _ _ h=>h,fun _ v w' w'' F h=>by obtain ⟨A549,c550,hv,H551⟩:=h; exact ⟨A549,c550,hv,(H551.fr F (by simp))⟩,fun _ _ _ _ _ h=>h,fun _ _ _ _ _ h=>h,fun _ _ _ _ _ h=>h,(fun h=>absurd h (by decide)),trivial⟩,trivial⟩ ⟨fun w' w'' F h=>by have hB543_b505:=h; exact (hB543_b505.ex F),fun w' w'' F h=>by obtain ⟨A545,c546,H547,hB543_b505⟩:=h; exact ⟨A545,c546,(H547.ex F),(hB543_b505.ex F)⟩,fun w' w'' F h=>by obtain ⟨A545,c546,A549,c550,H547,H551,hB543_b505⟩:=h; exact ⟨A545,c546,A549,c550,(H547.ex F),(H551.ex F),(hB543_b505.ex F)⟩,trivial⟩ ((B505.ex F517).ex F525) ?_ ?_ ?_
      ·refine ⟨?_,?_,?_,?_,?_,?_,?_,?_,?_,?_,?_,?_,?_,?_,?_,?_,trivial⟩
       ·intro _ ρ w543o F543o hX hS hρ
        have F543o:=hX 13 rfl rfl
        have q7:ρ 7=.func (.func 167) #[] #[]:=hρ 7 (by kernel_rfl)
        exact o_q (r_mov q7) ⟨Fr.refl _ _,rfl⟩
       ·intro _ ρ w543o F543o hX hS hρ
        have F543o:=hX 13 rfl rfl
        have q4:ρ 4=.pointer (some ⟨b505,0,none⟩):=hρ 4 (by kernel_rfl)
        exact o_q (r_fa fld_api_Value_5 rfl q4) ⟨Fr.refl _ _,rfl⟩
       ·intro _ ρ w543o F543o hX hS hρ
        have F543o:=hX 13 rfl rfl
        have q9:ρ 9=.pointer (some ⟨b505,5,none⟩):=hS 1 (by decide) 9 rfl
        exact o_q (r_ld one_s_int q9 ((((B505.ex F517).ex F525).ex F543o).cell rfl)) ⟨Fr.refl _ _,rfl⟩
       ·intro _ ρ w543o F543o hX hS hρ
        have F543o:=hX 13 rfl rfl
        have q5:ρ 5=.pointer (some ⟨b517,0,none⟩):=hρ 5 (by kernel_rfl)
        exact o_q (r_fa fld_api_Value_5 rfl q5) ⟨Fr.refl _ _,rfl⟩
       ·intro _ ρ w543o F543o hX hS hρ
        have F543o:=hX 13 rfl rfl
        have q11:ρ 11=.pointer (some ⟨b517,5,none⟩):=hS 3 (by decide) 11 rfl
        exact o_q (r_ld one_s_int q11 ((S517.fr (G538.trans (Fr.ext F543o)) sI).now.cell rfl)) ⟨Fr.refl _ _,rfl⟩
       ·intro _ ρ w543o F543o hX hS hρ
        have F543o:=hX 13 rfl rfl
        have E570:=E533.trans F543o
        have B576:=((((((B19.ex F27).ex F39).ex F499).ex F505).ex F517).ex F525).ex F543o
        have q8:ρ 8=.func (.func 167) #[] #[]:=hS 0 (by decide) 8 rfl
        have q10:ρ 10=.slice A1 d0.plus.length c2:=hS 2 (by decide) 10 rfl
        have q12:ρ 12=.slice A7 d1.plus.length c8:=hS 4 (by decide) 12 rfl
        refine o_callv cf_value_counter_join_1 (show ev ρ _=_ from q8) (by simp only [List.map,ev,q10,q12] <;> rfl) (value_counter_join_1_c d0.plus (H3.up (G534.trans (Fr.ext F543o)) sI (upc (.inr m528) (upc (.inr m507) (upc (.inr m20) (fun _ h=>.inl h))))) d1.plus (H9.up (G534.trans (Fr.ext F543o)) sI (upc (.inr m528) (upc (.inr m507) (upc (.inr m20) (fun _ h=>.inl h))))) ((((hL.fr E570).cons B576.lt).cons (((B505.ex F517).ex F525).ex F543o).lt).cons (B525.ex F543o).lt) hx544) rfl rfl ?_
        rintro _ w' ⟨F,A545,c546,rfl,H547⟩
        exact eo_nil ⟨rfl,rfl,_,rfl,F,⟨A545,c546,rfl,H547⟩⟩
       ·intro _ ρ w543o F543o hX hS hρ
        have F543o:=hX 13 rfl rfl
        have q7:ρ 7=.func (.func 167) #[] #[]:=hρ 7 (by kernel_rfl)
        exact o_q (r_mov q7) ⟨Fr.refl _ _,rfl⟩
       ·intro _ ρ w543o F543o hX hS hρ
        have F543o:=hX 13 rfl rfl
        have q4:ρ 4=.pointer (some ⟨b505,0,none⟩):=hρ 4 (by kernel_rfl)
        exact o_q (r_fa fld_api_Value_6 rfl q4) ⟨Fr.refl _ _,rfl⟩
       ·intro _ ρ w543o F543o hX hS hρ
        have F543o:=hX 13 rfl rfl
        have q15:ρ 15=.pointer (some ⟨b505,6,none⟩):=hS 7 (by decide) 15 rfl
        exact o_q (r_ld one_s_int q15 ((((B505.ex F517).ex F525).ex F543o).cell rfl)) ⟨Fr.refl _ _,rfl⟩
       ·intro _ ρ w543o F543o hX hS hρ
        have F543o:=hX 13 rfl rfl
        have q5:ρ 5=.pointer (some ⟨b517,0,none⟩):=hρ 5 (by kernel_rfl)
        exact o_q (r_fa fld_api_Value_6 rfl q5) ⟨Fr.refl _ _,rfl⟩
       ·intro _ ρ w543o F543o hX hS hρ
        have F543o:=hX 13 rfl rfl
        have q17:ρ 17=.pointer (some ⟨b517,6,none⟩):=hS 9 (by decide) 17 rfl
        exact o_q (r_ld one_s_int q17 ((S517.fr (G538.trans (Fr.ext F543o)) sI).now.cell rfl)) ⟨Fr.refl _ _,rfl⟩
       ·intro _ ρ w543o F543o hX hS hρ
        have F543o:=hX 13 rfl rfl
        have E597:=E533.trans F543o
        have B603:=((((((B19.ex F27).ex F39).ex F499).ex F505).ex F517).ex F525).ex F543o
        have q14:ρ 14=.func (.func 167) #[] #[]:=hS 6 (by decide) 14 rfl
        have q16:ρ 16=.slice A4 d0.minus.length c5:=hS 8 (by decide) 16 rfl
        have q18:ρ 18=.slice A10 d1.minus.length c11:=hS 10 (by decide) 18 rfl
        refine o_callv cf_value_counter_join_1 (show ev ρ _=_ from q14) (by simp only [List.map,ev,q16,q18] <;> rfl) (value_counter_join_1_c d0.minus (H6.up (G534.trans (Fr.ext F543o)) sI (upc (.inr m528) (upc (.inr m507) (upc (.inr m20) (fun _ h=>.inl h))))) d1.minus (H12.up (G534.trans (Fr.ext F543o)) sI (upc (.inr m528) (upc (.inr m507) (upc (.inr m20) (fun _ h=>.inl h))))) ((((hL.fr E597).cons B603.lt).cons (((B505.ex F517).ex F525).ex F543o).lt).cons (B525.ex F543o).lt) hx548) rfl rfl ?_
        rintro _ w' ⟨F,A549,c550,rfl,H551⟩
        exact eo_nil ⟨rfl,rfl,_,rfl,F,⟨A549,c550,rfl,H551⟩⟩
       ·intro _ ρ w543o F543o hX hS hρ
        have F543o:=hX 13 rfl rfl
        have q4:ρ 4=.pointer (some ⟨b505,0,none⟩):=hρ 4 (by kernel_rfl)
        exact o_q (r_fa fld_api_Value_5 rfl q4) ⟨Fr.refl _ _,rfl⟩
       ·intro hT; exact absurd hT (by decide)
       ·intro _ ρ w543o F543o hX hS hρ
        have q4:ρ 4=.pointer (some ⟨b505,0,none⟩):=hρ 4 (by kernel_rfl)
        exact o_q (r_fa fld_api_Value_6 rfl q4) ⟨Fr.refl _ _,rfl⟩
       ·intro hT; exact absurd hT (by decide)
      ·refine ⟨⟨_,rfl,?_⟩,⟨_,rfl,?_⟩,trivial⟩
       ·intro ρ w543o F543o hX hI hS hρ
        have F543o:=hX rfl
        have hB543_b505:=hI
        obtain ⟨A545,c546,q13,H547⟩:=hS 5 (by decide) 13 rfl
        have q20:ρ 20=.pointer (some ⟨b505,5,none⟩):=hS 12 (by decide) 20 rfl
        refine o_store (show ev ρ _=_ from q20) hB543_b505 (vs:=[.slice A545 x544.length c546]) (congrArg Value.cells q13) sz_s_int rfl rfl rfl ?_
        intro w' F B2
        exact eo_nil ⟨rfl,rfl,undef,rfl,F,⟨A545,c546,(H547.fr F (by simp)),B2⟩,trivial⟩
       ·intro ρ w543o F543o hX hI hS hρ
        obtain ⟨A545,c546,H547,hB543_b505⟩:=hI
        obtain ⟨A549,c550,q19,H551⟩:=hS 11 (by decide) 19 rfl
        have q21:ρ 21=.pointer (some ⟨b505,6,none⟩):=hS 14 (by decide) 21 rfl
        refine o_store (show ev ρ _=_ from q21) hB543_b505 (vs:=[.slice A549 x548.length c550]) (congrArg Value.cells q19) sz_s_int rfl rfl rfl ?_
        intro w' F B2
        exact eo_nil ⟨rfl,rfl,undef,rfl,F,⟨A545,c546,A549,c550,(H547.fr F (by simp)),(H551.fr F (by simp)),B2⟩,trivial⟩
      ·intro ρ w543 F543 hI hS hρ
       obtain ⟨A545,c546,A549,c550,H547,H551,hB543_b505⟩:=hI
       obtain ⟨ρ',rfl⟩:∃ ρ',ρ=envs (ovr [8,9,10,11,12,13,14,15,16,17,18,19,20,21] ρ' _) []:=⟨ρ,ovr_self hρ trivial⟩
       have E623:Ext w w543:=Ext.st E533 F543 (upc n505 (fun m hm=>by cases hm))
       have B629:=((((((B19.ex F27).ex F39).ex F499).ex F505).ex F517).ex F525).fr F543 (fun hm=>(show ∀ m∈_,m≠b19 from (upc (by omega) (fun m hm=>by cases hm))) _ hm rfl)
       have B630:=B525.fr F543 (fun hm=>(show ∀ m∈_,m≠b525 from (upc (by omega) (fun m hm=>by cases hm))) _ hm rfl)
       have Z543:=Fr.refl (b525::(b505::(b19::L))) w543
       refine sq_n ?_
       refine ec_sr ?_
       refine o_w (v:=.agg #[.int .i64 d0.kind,.int .i64 d0.time,.int .i64 d0.node,.bool d0.dead,str d0.text,.slice A545 x544.length c546,.slice A549 x548.length c550,.int .u64 d0.flags]) (r_lda agg_api_Value rfl (vs:=[.int .i64 d0.kind,.int .i64 d0.time,.int .i64 d0.node,.bool d0.dead,str d0.text,.slice A545 x544.length c546,.slice A549 x548.length c550,.int .u64 d0.flags]) rfl (hB543_b505.part (n:=8) rfl)) ?_
       refine o_store rfl B630 (vs:=[.int .i64 d0.kind,.int .i64 d0.time,.int .i64 d0.node,.bool d0.dead,str d0.text,.slice A545 x544.length c546,.slice A549 x548.length c550,.int .u64 d0.flags]) rfl sz_api_Value rfl rfl rfl ?_
       intro w631 F631 B631
       have E632:=Ext.st E623 F631 (by simp; omega)
       have G638:Fr (b525::(b505::(b19::L))) w543 w631:=Z543.stp F631 (upc (.inl mH) (fun m hm=>by cases hm))
       have B639:=B629.fr F631 (by simp; omega)
       have B640:=hB543_b505.fr F631 (by simp; omega)
       have B631':Blk w631 b525 _ [.int .i64 d0.kind,.int .i64 d0.time,.int .i64 d0.node,.bool d0.dead,str d0.text,.slice A545 x544.length c546,.slice A549 x548.length c550,.int .u64 d0.flags]:=B631
       refine eo_nil_sq ?_
       refine ec_ret ?_
       refine endr1 (v:=.agg #[.int .i64 d0.kind,.int .i64 d0.time,.int .i64 d0.node,.bool d0.dead,str d0.text,.slice A545 x544.length c546,.slice A549 x548.length c550,.int .u64 d0.flags]) (rv_a rfl (agg_api_Value) B631' (vs:=[.int .i64 d0.kind,.int .i64 d0.time,.int .i64 d0.node,.bool d0.dead,str d0.text,.slice A545 x544.length c546,.slice A549 x548.length c550,.int .u64 d0.flags]) rfl rfl) ⟨_,rfl,?_⟩
       refine o_alloc zero_api_Value rfl rfl rfl ?_
       intro b641 w641 e641 F641 B641
       have n641:w.heap.size≤b641:=by rw [e641]; exact E632.size
       have q642:b19<b641:=by rw [e641]; exact B639.lt
       have q643:b505<b641:=by rw [e641]; exact B640.lt
       have q644:b525<b641:=by rw [e641]; exact B631'.lt
       have m650:w543.heap.size≤b641:=by rw [e641]; exact G638.size
       have E651:=E632.trans F641
       refine o_store rfl B641 (vs:=[.int .i64 d0.kind,.int .i64 d0.time,.int .i64 d0.node,.bool d0.dead,str d0.text,.slice A545 x544.length c546,.slice A549 x548.length c550,.int .u64 d0.flags]) rfl sz_api_Value rfl rfl rfl ?_
       intro w661 F661 B661
       have E662:=Ext.st E651 F661 (by simp; omega)
       have G668:Fr (b525::(b505::(b19::L))) w543 w661:=(G638.trans (Fr.ext F641)).stp F661 (upc (.inr m650) (fun m hm=>by cases hm))
       have B669:=(B639.ex F641).fr F661 (by simp; omega)
       have B670:=(B640.ex F641).fr F661 (by simp; omega)
       have B671:=(B631'.ex F641).fr F661 (by simp; omega)
       have B661':Blk w661 b641 _ [.int .i64 d0.kind,.int .i64 d0.time,.int .i64 d0.node,.bool d0.dead,str d0.text,.slice A545 x544.length c546,.slice A549 x548.length c550,.int .u64 d0.flags]:=B661
       refine eo_nil_sq ?_
       refine ec_seq ?_
       obtain ⟨x675,hx675,h⟩:=h
       obtain ⟨x679,hx679,h⟩:=h
       have qb674_b641:b641<w661.heap.size:=B661'.lt
       refine ec_anyN (by kernel_rfl) [[],[0],[0,1],[],[3],[0,1,2,3,4],[0,1,2,3,4],[0,1,2,3,4,5,6],[0,1,2,3,4,5,6,7],[0,1,2,3,4,5,6,7,8]] [34,35,36,37,38,39,40,41] (b641::[]) [7,9] [[b641],[b641]] [[7,8,9],[9]] [fun w'=>Blk w' b641 43 [.int .i64 d0.kind,.int .i64 d0.time,.int .i64 d0.node,.bool d0.dead,str d0.text,.slice A545 x544.length c546,.slice A549 x548.length c550,.int .u64 d0.flags],fun w'=>∃ A676 c677,Stb (b641::(b525::(b505::(b19::L)))) w' (fun w=>SlC (kI .i64) w A676 c677 x675)∧Blk w' b641 43 [.int .i64 d0.kind,.int .i64 d0.time,.int .i64 d0.node,.bool d0.dead,str d0.text,.slice A676 x675.length c677,.slice A549 x548.length c550,.int .u64 d0.flags],fun w'=>∃ A676 c677 A680 c681,Stb (b641::(b525::(b505::(b19::L)))) w' (fun w=>SlC (kI .i64) w A676 c677 x675)∧Stb (b641::(b525::(b505::(b19::L)))) w' (fun w=>SlC (kI .i64) w A680 c681 x679)∧Blk w' b641 43 [.int .i64 d0.kind,.int .i64 d0.time,.int .i64 d0.node,.bool d0.dead,str d0.text,.slice A676 x675.length c677,.slice A680 x679.length c681,.int .u64 d0.flags]] [fun v _=>v=(.pointer (some ⟨b641,5,none⟩):Value),fun v _=>v=(.slice A545 x544.length c546:Value),fun v w'=>∃ A676 c677,v=(.slice A676 x675.length c677:Value)∧Stb (b641::(b525::(b505::(b19::L)))) w' (fun w=>SlC (kI .i64) w A676 c677 x675),fun v _=>v=(.pointer (some ⟨b641,6,none⟩):Value),fun v _=>v=(.slice A549 x548.length c550:Value),fun v w'=>∃ A680 c681,v=(.slice A680 x679.length c681:Value)∧Stb (b641::(b525::(b505::(b19::L)))) w' (fun w=>SlC (kI .i64) w A680 c681 x679),fun v _=>v=(.pointer (some ⟨b641,5,none⟩):Value),fun _ _=>True,fun v _=>v=(.pointer (some ⟨b641,6,none⟩):Value),fun _ _=>True] (by kernel_rfl) (allM1 (fun m hm=>by first | exact hm | (simp at hm ⊢; simp [hm]; done) | simp_all) (allM1 (fun m hm=>by first | exact hm | (simp at hm ⊢; simp [hm]; done) | simp_all) (fun _ h=>by cases h))) ⟨fun _ _ _ _ _ h=>h,fun _ _ _ _ _ h=>h,fun _ v w' w'' F h=>by obtain ⟨A676,c677,hv,H678⟩:=h; exact ⟨A676,c677,hv,(H678.ex F)⟩,fun _ _ _ _ _ h=>h,fun _ _ _ _ _ h=>h,fun _ v w' w'' F h=>by obtain ⟨A680,c681,hv,H682⟩:=h; exact ⟨A680,c681,hv,(H682.ex F)⟩,fun _ _ _ _ _ h=>h,fun _ _ _ _ _ h=>h,fun _ _ _ _ _ h=>h,fun _ _ _ _ _ h=>h,trivial⟩ ⟨⟨fun _ _ _ _ _ h=>h,fun _ _ _ _ _ h=>h,fun _ v w' w'' F h=>by obtain ⟨A676,c677,hv,H678⟩:=h; exact ⟨A676,c677,hv,(H678.fr F (by simp))⟩,fun _ _ _ _ _ h=>h,fun _ _ _ _ _ h=>h,fun _ v w' w'' F h=>by obtain ⟨A680,c681,hv,H682⟩:=h; exact ⟨A680,c681,hv,(H682.fr F (by simp))⟩,fun _ _ _ _ _ h=>h,(fun h=>absurd h (by decide)),(fun h=>absurd h (by decide)),(fun h=>absurd h (by decide)),trivial⟩,⟨fun _ _ _ _ _ h=>h,fun _ _ _ _ _ h=>h,fun _ v w' w'' F h=>by obtain ⟨A676,c677,hv,H678⟩:=h; exact ⟨A676,c677,hv,(H678.fr F (by simp))⟩,fun _ _ _ _ _ h=>h,fun _ _ _ _ _ h=>h,fun _ v w' w'' F h=>by obtain ⟨A680,c681,hv,H682⟩:=h; exact ⟨A680,c681,hv,(H682.fr F (by simp))⟩,fun _ _ _ _ _ h=>h,fun _ _ _ _ _ h=>h,fun _ _ _ _ _ h=>h,(fun h=>absurd h (by decide)),trivial⟩,trivial⟩ ⟨fun w' w'' F h=>by have hB674_b641:=h; exact (hB674_b641.ex F),fun w' w'' F h=>by obtain ⟨A676,c677,H678,hB674_b641⟩:=h; exact ⟨A676,c677,(H678.ex F),(hB674_b641.ex F)⟩,fun w' w'' F h=>by obtain ⟨A676,c677,A680,c681,H678,H682,hB674_b641⟩:=h; exact ⟨A676,c677,A680,c681,(H678.ex F),(H682.ex F),(hB674_b641.ex F)⟩,trivial⟩ B661' ?_ ?_ ?_
       ·refine ⟨?_,?_,?_,?_,?_,?_,?_,?_,?_,?_,trivial⟩
        ·intro _ ρ w674o F674o hX hS hρ
         have F674o:=hX 7 rfl rfl
         have q8:ρ 8=.pointer (some ⟨b641,0,none⟩):=hρ 8 (by kernel_rfl)
         exact o_q (r_fa fld_api_Value_5 rfl q8) ⟨Fr.refl _ _,rfl⟩
        ·intro _ ρ w674o F674o hX hS hρ
         have F674o:=hX 7 rfl rfl
         have q34:ρ 34=.pointer (some ⟨b641,5,none⟩):=hS 0 (by decide) 34 rfl
         exact o_q (r_ld one_s_int q34 ((B661'.ex F674o).cell rfl)) ⟨Fr.refl _ _,rfl⟩
        ·intro _ ρ w674o F674o hX hS hρ
         have F674o:=hX 7 rfl rfl
         have E694:=E662.trans F674o
         have q35:ρ 35=.slice A545 x544.length c546:=hS 1 (by decide) 35 rfl
         refine o_call cf_slices_Clone_int (by simp only [List.map,ev,q35] <;> rfl) (slices_Clone_int_c x544 (H547.up (G668.trans (Fr.ext F674o)) sI (upc (.inr m650) (upc (.inl mH) (upc (.inl (mT mH)) (upc (.inl (mT (mT mH))) (fun m hm=>Or.inl (mT (mT (mT hm))))))))) (((((hL.fr E694).cons (B669.ex F674o).lt).cons (B670.ex F674o).lt).cons (B671.ex F674o).lt).cons (B661'.ex F674o).lt) hx675) rfl rfl ?_
         intro v' w' hv'
         obtain ⟨F,O,Nn⟩:=hv'
         obtain ⟨A676,c677,ev,H678⟩:=O.still
         subst ev
         exact eo_nil ⟨rfl,rfl,_,rfl,F,⟨A676,c677,rfl,H678⟩⟩
        ·intro _ ρ w674o F674o hX hS hρ
         have F674o:=hX 7 rfl rfl
         have q8:ρ 8=.pointer (some ⟨b641,0,none⟩):=hρ 8 (by kernel_rfl)
         exact o_q (r_fa fld_api_Value_6 rfl q8) ⟨Fr.refl _ _,rfl⟩
        ·intro _ ρ w674o F674o hX hS hρ
         have F674o:=hX 7 rfl rfl
         have q37:ρ 37=.pointer (some ⟨b641,6,none⟩):=hS 3 (by decide) 37 rfl
         exact o_q (r_ld one_s_int q37 ((B661'.ex F674o).cell rfl)) ⟨Fr.refl _ _,rfl⟩
        ·intro _ ρ w674o F674o hX hS hρ
         have F674o:=hX 7 rfl rfl
         have E716:=E662.trans F674o
         have q38:ρ 38=.slice A549 x548.length c550:=hS 4 (by decide) 38 rfl
         refine o_call cf_slices_Clone_int (by simp only [List.map,ev,q38] <;> rfl) (slices_Clone_int_c x548 (H551.up (G668.trans (Fr.ext F674o)) sI (upc (.inr m650) (upc (.inl mH) (upc (.inl (mT mH)) (upc (.inl (mT (mT mH))) (fun m hm=>Or.inl (mT (mT (mT hm))))))))) (((((hL.fr E716).cons (B669.ex F674o).lt).cons (B670.ex F674o).lt).cons (B671.ex F674o).lt).cons (B661'.ex F674o).lt) hx679) rfl rfl ?_
         intro v' w' hv'
         obtain ⟨F,O,Nn⟩:=hv'
         obtain ⟨A680,c681,ev,H682⟩:=O.still
         subst ev
         exact eo_nil ⟨rfl,rfl,_,rfl,F,⟨A680,c681,rfl,H682⟩⟩
        ·intro _ ρ w674o F674o hX hS hρ
         have F674o:=hX 7 rfl rfl
         have q8:ρ 8=.pointer (some ⟨b641,0,none⟩):=hρ 8 (by kernel_rfl)
         exact o_q (r_fa fld_api_Value_5 rfl q8) ⟨Fr.refl _ _,rfl⟩
        ·intro hT; exact absurd hT (by decide)
        ·intro _ ρ w674o F674o hX hS hρ
         have q8:ρ 8=.pointer (some ⟨b641,0,none⟩):=hρ 8 (by kernel_rfl)
         exact o_q (r_fa fld_api_Value_6 rfl q8) ⟨Fr.refl _ _,rfl⟩
        ·intro hT; exact absurd hT (by decide)
       ·refine ⟨⟨_,rfl,?_⟩,⟨_,rfl,?_⟩,trivial⟩
        ·intro ρ w674o F674o hX hI hS hρ
         have F674o:=hX rfl
         have hB674_b641:=hI
         obtain ⟨A676,c677,q36,H678⟩:=hS 2 (by decide) 36 rfl
         have q40:ρ 40=.pointer (some ⟨b641,5,none⟩):=hS 6 (by decide) 40 rfl
         refine o_store (show ev ρ _=_ from q40) hB674_b641 (vs:=[.slice A676 x675.length c677]) (congrArg Value.cells q36) sz_s_int rfl rfl rfl ?_
         intro w' F B2
         exact eo_nil ⟨rfl,rfl,undef,rfl,F,⟨A676,c677,(H678.fr F (by simp)),B2⟩,trivial⟩
        ·intro ρ w674o F674o hX hI hS hρ
         obtain ⟨A676,c677,H678,hB674_b641⟩:=hI
         obtain ⟨A680,c681,q39,H682⟩:=hS 5 (by decide) 39 rfl
         have q41:ρ 41=.pointer (some ⟨b641,6,none⟩):=hS 8 (by decide) 41 rfl
         refine o_store (show ev ρ _=_ from q41) hB674_b641 (vs:=[.slice A680 x679.length c681]) (congrArg Value.cells q39) sz_s_int rfl rfl rfl ?_
         intro w' F B2
         exact eo_nil ⟨rfl,rfl,undef,rfl,F,⟨A676,c677,A680,c681,(H678.fr F (by simp)),(H682.fr F (by simp)),B2⟩,trivial⟩
       ·intro ρ w674 F674 hI hS hρ
        obtain ⟨A676,c677,A680,c681,H678,H682,hB674_b641⟩:=hI
        obtain ⟨ρ',rfl⟩:∃ ρ',ρ=envs (ovr [34,35,36,37,38,39,40,41] ρ' _) []:=⟨ρ,ovr_self hρ trivial⟩
        have E748:Ext w w674:=Ext.st E662 F674 (upc n641 (fun m hm=>by cases hm))
        have B755:=B669.fr F674 (fun hm=>(show ∀ m∈_,m≠b19 from (upc (by omega) (fun m hm=>by cases hm))) _ hm rfl)
        have Z674:=Fr.refl (b641::(b525::(b505::(b19::L)))) w674
        refine sq_n ?_
        refine ec_sr ?_
        refine o_w (v:=.agg #[.int .i64 d0.kind,.int .i64 d0.time,.int .i64 d0.node,.bool d0.dead,str d0.text,.slice A676 x675.length c677,.slice A680 x679.length c681,.int .u64 d0.flags]) (r_lda agg_api_Value rfl (vs:=[.int .i64 d0.kind,.int .i64 d0.time,.int .i64 d0.node,.bool d0.dead,str d0.text,.slice A676 x675.length c677,.slice A680 x679.length c681,.int .u64 d0.flags]) rfl (hB674_b641.part (n:=8) rfl)) ?_
        refine o_store rfl B755 (vs:=[.int .i64 d0.kind,.int .i64 d0.time,.int .i64 d0.node,.bool d0.dead,str d0.text,.slice A676 x675.length c677,.slice A680 x679.length c681,.int .u64 d0.flags]) rfl sz_api_Value rfl rfl rfl ?_
        intro w758 F758 B758
        have E759:=Ext.st E748 F758 (by simp; omega)
        have G766:Fr (b641::(b525::(b505::(b19::L)))) w674 w758:=Z674.stp F758 (upc (.inl (mT (mT (mT mH)))) (fun m hm=>by cases hm))
        have B758':Blk w758 b19 _ [.int .i64 d0.kind,.int .i64 d0.time,.int .i64 d0.node,.bool d0.dead,str d0.text,.slice A676 x675.length c677,.slice A680 x679.length c681,.int .u64 d0.flags]:=B758
        refine o_w (v:=.int .i64 0) (r_asg rfl) ?_
        refine eo_nil_sq ?_
        refine ec_ret ?_
        subst h
        exact (endr2 (rv_a rfl (agg_api_Value) B758' (vs:=[.int .i64 d0.kind,.int .i64 d0.time,.int .i64 d0.node,.bool d0.dead,str d0.text,.slice A676 x675.length c677,.slice A680 x679.length c681,.int .u64 d0.flags]) rfl rfl) (rv_t rfl) ⟨_,rfl,E759,_,rfl,(kVal_mk (d:=(⟨d0.kind,d0.time,d0.node,d0.dead,d0.text,x675,x679,d0.flags⟩:Val)) (H678.up G766 sI (fun m hm=>Or.inl (mT (mT (mT (mT hm)))))) (H682.up G766 sI (fun m hm=>Or.inl (mT (mT (mT (mT hm)))))))⟩)
     ·replace h:=h.2 hc498
      refine ec_sr ?_
      refine o_w (v:=.bool (d0.kind==3)) (r_int rfl rfl rfl) ?_
      refine o_w (v:=.bool (d0.kind==3)) (r_asg rfl) ?_
      refine eo_nil_sq ?_
      refine ec_cond rfl (fun hc770=>?_) (fun hc770=>?_)
      ·replace h:=h.1 hc770
       refine ec_sr ?_
       refine o_w (v:=.agg #[]) (r_build bld_value_flags (vs:=[]) (cells:=[]) rfl rfl) ?_
       refine o_w (v:=.iface 149 (.agg #[])) (r_mkif conc_value_flags rfl) ?_
       refine o_w (v:=.iface 149 (.agg #[])) (r_asg rfl) ?_
       refine o_w (v:=.bool true) (r_asg rfl) ?_
       refine eo_nil_sq ?_
       refine ec_ret ?_
       refine blk_ret ?_
       refine sq_ret ?_
       refine end2 (v:=.iface 149 (.agg #[])) (x:=.bool true) rfl rfl ⟨_,rfl,?_⟩
       refine o_w (v:=.tuple #[.iface 149 (.agg #[]),.bool true]) (r_mov rfl) ?_
       refine o_w (v:=.iface 149 (.agg #[])) (r_ext rfl rfl) ?_
       refine o_w (v:=.bool true) (r_ext rfl rfl) ?_
       refine o_w (v:=.iface 149 (.agg #[])) (r_asg rfl) ?_
       refine o_w (v:=.bool true) (r_asg rfl) ?_
       refine eo_r ?_
       refine o_w (v:=.iface 149 (.agg #[])) (r_mov rfl) ?_
       refine o_w (v:=.agg (cVal d0 A1 c2 A4 c5).toArray) (r_lda agg_api_Value rfl (vs:=(cVal d0 A1 c2 A4 c5)) rfl ((S13.fr (((G18.trans (Fr.ext F19)).trans (Fr.ext F27)).trans (Fr.ext F39)) sI).now.part (n:=8) rfl)) ?_
       refine o_w (v:=.agg (cVal d1 A7 c8 A10 c11).toArray) (r_lda agg_api_Value rfl (vs:=(cVal d1 A7 c8 A10 c11)) rfl ((S15.fr ((G26.trans (Fr.ext F27)).trans (Fr.ext F39)) sI).now.part (n:=8) rfl)) ?_
       refine o_inlI (vs:=[.agg (cVal d0 A1 c2 A4 c5).toArray,.agg (cVal d1 A7 c8 A10 c11).toArray]) mf_value_flags_ouroboros_value_join rfl rfl rfl rfl ?_
       refine calls_ec Tryz.func170 rfl rfl rfl ?_
       refine ec_sr ?_
       refine o_box (cs:=[]) rfl rfl rfl ?_
       intro b771 w771 e771 F771 B771
       have E772:=E40.trans F771
       refine o_box (cs:=(cVal d0 A1 c2 A4 c5)) rfl rfl rfl ?_
       intro b777 w777 e777 F777 B777
       have n777:w.heap.size≤b777:=by rw [e777]; exact E772.size
       have q778:b19<b777:=by rw [e777]; exact (((B19.ex F27).ex F39).ex F771).lt
       have m779:w.heap.size≤b777:=by rw [e777]; exact (G41.trans (Fr.ext F771)).size
       have E783:=E772.trans F777
       refine o_box (cs:=(cVal d1 A7 c8 A10 c11)) rfl rfl rfl ?_
       intro b789 w789 e789 F789 B789
       have S789:=B789.stb (nin (((hL.fr E783).cons ((((B19.ex F27).ex F39).ex F771).ex F777).lt).cons B777.lt) e789)
       have E790:=E783.trans F789
       refine o_alloc zero_api_Value rfl rfl rfl ?_
       intro b797 w797 e797 F797 B797
       have n797:w.heap.size≤b797:=by rw [e797]; exact E790.size
       have q798:b19<b797:=by rw [e797]; exact (((((B19.ex F27).ex F39).ex F771).ex F777).ex F789).lt
       have q799:b777<b797:=by rw [e797]; exact (B777.ex F789).lt
       have m800:w.heap.size≤b797:=by rw [e797]; exact (((G41.trans (Fr.ext F771)).trans (Fr.ext F777)).trans (Fr.ext F789)).size
       have E805:=E790.trans F797
       have G806:=(((G41.trans (Fr.ext F771)).trans (Fr.ext F777)).trans (Fr.ext F789)).trans (Fr.ext F797)
       have G810:Fr (b777::(b19::L)) w789 w797:=Fr.ext F797
       refine eo_r ?_
       refine o_w (v:=.pointer (some ⟨b777,7,none⟩)) (r_fa fld_api_Value_7 rfl rfl) ?_
       refine o_w (v:=.int .u64 d0.flags) (r_ld one_uint64 rfl (((B777.ex F789).ex F797).cell rfl)) ?_
       refine o_w (v:=.pointer (some ⟨b789,7,none⟩)) (r_fa fld_api_Value_7 rfl rfl) ?_
       refine o_w (v:=.int .u64 d1.flags) (r_ld one_uint64 rfl ((S789.fr G810 sI).now.cell rfl)) ?_
       refine o_w (v:=.int .u64 (IntKind.u64.wrap ((BitVec.ofInt IntKind.u64.bits d0.flags ||| BitVec.ofInt IntKind.u64.bits d1.flags).toNat:Int))) (r_int rfl rfl rfl) ?_
       refine o_w (v:=.pointer (some ⟨b777,7,none⟩)) (r_fa fld_api_Value_7 rfl rfl) ?_
       refine o_store rfl ((B777.ex F789).ex F797) (vs:=[.int .u64 (IntKind.u64.wrap ((BitVec.ofInt IntKind.u64.bits d0.flags ||| BitVec.ofInt IntKind.u64.bits d1.flags).toNat:Int))]) rfl sz_uint64 rfl rfl rfl ?_
       intro w813 F813 B813
       have E814:=Ext.st E805 F813 (by simp; omega)
       have G815:Fr L w w813:=G806.stp F813 (upc (.inr m779) (fun m hm=>by cases hm))
       have B820:=((((((B19.ex F27).ex F39).ex F771).ex F777).ex F789).ex F797).fr F813 (by simp; omega)
       have B821:=B797.fr F813 (by simp; omega)
       have B813':Blk w813 b777 _ [.int .i64 d0.kind,.int .i64 d0.time,.int .i64 d0.node,.bool d0.dead,str d0.text,.slice A1 d0.plus.length c2,.slice A4 d0.minus.length c5,.int .u64 (IntKind.u64.wrap ((BitVec.ofInt IntKind.u64.bits d0.flags ||| BitVec.ofInt IntKind.u64.bits d1.flags).toNat:Int))]:=B813
       refine eo_r ?_
       refine o_w (v:=.agg #[.int .i64 d0.kind,.int .i64 d0.time,.int .i64 d0.node,.bool d0.dead,str d0.text,.slice A1 d0.plus.length c2,.slice A4 d0.minus.length c5,.int .u64 (IntKind.u64.wrap ((BitVec.ofInt IntKind.u64.bits d0.flags ||| BitVec.ofInt IntKind.u64.bits d1.flags).toNat:Int))]) (r_lda agg_api_Value rfl (vs:=[.int .i64 d0.kind,.int .i64 d0.time,.int .i64 d0.node,.bool d0.dead,str d0.text,.slice A1 d0.plus.length c2,.slice A4 d0.minus.length c5,.int .u64 (IntKind.u64.wrap ((BitVec.ofInt IntKind.u64.bits d0.flags ||| BitVec.ofInt IntKind.u64.bits d1.flags).toNat:Int))]) rfl (B813'.part (n:=8) rfl)) ?_
       refine o_store rfl B821 (vs:=[.int .i64 d0.kind,.int .i64 d0.time,.int .i64 d0.node,.bool d0.dead,str d0.text,.slice A1 d0.plus.length c2,.slice A4 d0.minus.length c5,.int .u64 (IntKind.u64.wrap ((BitVec.ofInt IntKind.u64.bits d0.flags ||| BitVec.ofInt IntKind.u64.bits d1.flags).toNat:Int))]) rfl sz_api_Value rfl rfl rfl ?_
       intro w822 F822 B822
       have E823:=Ext.st E814 F822 (by simp; omega)
       have G824:Fr L w w822:=G815.stp F822 (upc (.inr m800) (fun m hm=>by cases hm))
       have B829:=B820.fr F822 (by simp; omega)
       have B830:=B813'.fr F822 (by simp; omega)
       have B822':Blk w822 b797 _ [.int .i64 d0.kind,.int .i64 d0.time,.int .i64 d0.node,.bool d0.dead,str d0.text,.slice A1 d0.plus.length c2,.slice A4 d0.minus.length c5,.int .u64 (IntKind.u64.wrap ((BitVec.ofInt IntKind.u64.bits d0.flags ||| BitVec.ofInt IntKind.u64.bits d1.flags).toNat:Int))]:=B822
       refine eo_nil_sq ?_
       refine ec_ret ?_
       refine endr1 (v:=.agg #[.int .i64 d0.kind,.int .i64 d0.time,.int .i64 d0.node,.bool d0.dead,str d0.text,.slice A1 d0.plus.length c2,.slice A4 d0.minus.length c5,.int .u64 (IntKind.u64.wrap ((BitVec.ofInt IntKind.u64.bits d0.flags ||| BitVec.ofInt IntKind.u64.bits d1.flags).toNat:Int))]) (rv_a rfl (agg_api_Value) B822' (vs:=[.int .i64 d0.kind,.int .i64 d0.time,.int .i64 d0.node,.bool d0.dead,str d0.text,.slice A1 d0.plus.length c2,.slice A4 d0.minus.length c5,.int .u64 (IntKind.u64.wrap ((BitVec.ofInt IntKind.u64.bits d0.flags ||| BitVec.ofInt IntKind.u64.bits d1.flags).toNat:Int))]) rfl rfl) ⟨_,rfl,?_⟩
       refine o_alloc zero_api_Value rfl rfl rfl ?_
       intro b831 w831 e831 F831 B831
       have n831:w.heap.size≤b831:=by rw [e831]; exact E823.size
       have q832:b19<b831:=by rw [e831]; exact B829.lt
       have q833:b777<b831:=by rw [e831]; exact B830.lt
       have q834:b797<b831:=by rw [e831]; exact B822'.lt
       have m835:w.heap.size≤b831:=by rw [e831]; exact G824.size
       have E840:=E823.trans F831
       refine o_store rfl B831 (vs:=[.int .i64 d0.kind,.int .i64 d0.time,.int .i64 d0.node,.bool d0.dead,str d0.text,.slice A1 d0.plus.length c2,.slice A4 d0.minus.length c5,.int .u64 (IntKind.u64.wrap ((BitVec.ofInt IntKind.u64.bits d0.flags ||| BitVec.ofInt IntKind.u64.bits d1.flags).toNat:Int))]) rfl sz_api_Value rfl rfl rfl ?_
       intro w849 F849 B849
       have E850:=Ext.st E840 F849 (by simp; omega)
       have G851:Fr L w w849:=(G824.trans (Fr.ext F831)).stp F849 (upc (.inr m835) (fun m hm=>by cases hm))
       have B856:=(B829.ex F831).fr F849 (by simp; omega)
       have B857:=(B830.ex F831).fr F849 (by simp; omega)
       have B858:=(B822'.ex F831).fr F849 (by simp; omega)
       have B849':Blk w849 b831 _ [.int .i64 d0.kind,.int .i64 d0.time,.int .i64 d0.node,.bool d0.dead,str d0.text,.slice A1 d0.plus.length c2,.slice A4 d0.minus.length c5,.int .u64 (IntKind.u64.wrap ((BitVec.ofInt IntKind.u64.bits d0.flags ||| BitVec.ofInt IntKind.u64.bits d1.flags).toNat:Int))]:=B849
       refine eo_nil_sq ?_
       refine ec_seq ?_
       obtain ⟨x862,hx862,h⟩:=h
       obtain ⟨x866,hx866,h⟩:=h
       have qb861_b831:b831<w849.heap.size:=B849'.lt
       refine ec_anyN (by kernel_rfl) [[],[0],[0,1],[],[3],[0,1,2,3,4],[0,1,2,3,4],[0,1,2,3,4,5,6],[0,1,2,3,4,5,6,7],[0,1,2,3,4,5,6,7,8]] [34,35,36,37,38,39,40,41] (b831::[]) [7,9] [[b831],[b831]] [[7,8,9],[9]] [fun w'=>Blk w' b831 43 [.int .i64 d0.kind,.int .i64 d0.time,.int .i64 d0.node,.bool d0.dead,str d0.text,.slice A1 d0.plus.length c2,.slice A4 d0.minus.length c5,.int .u64 (IntKind.u64.wrap ((BitVec.ofInt IntKind.u64.bits d0.flags ||| BitVec.ofInt IntKind.u64.bits d1.flags).toNat:Int))],fun w'=>∃ A863 c864,Stb (b831::(b797::(b777::(b19::L)))) w' (fun w=>SlC (kI .i64) w A863 c864 x862)∧Blk w' b831 43 [.int .i64 d0.kind,.int .i64 d0.time,.int .i64 d0.node,.bool d0.dead,str d0.text,.slice A863 x862.length c864,.slice A4 d0.minus.length c5,.int .u64 (IntKind.u64.wrap ((BitVec.ofInt IntKind.u64.bits d0.flags ||| BitVec.ofInt IntKind.u64.bits d1.flags).toNat:Int))],fun w'=>∃ A863 c864 A867 c868,Stb (b831::(b797::(b777::(b19::L)))) w' (fun w=>SlC (kI .i64) w A863 c864 x862)∧Stb (b831::(b797::(b777::(b19::L)))) w' (fun w=>SlC (kI .i64) w A867 c868 x866)∧Blk w' b831 43 [.int .i64 d0.kind,.int .i64 d0.time,.int .i64 d0.node,.bool d0.dead,str d0.text,.slice A863 x862.length c864,.slice A867 x866.length c868,.int .u64 (IntKind.u64.wrap ((BitVec.ofInt IntKind.u64.bits d0.flags ||| BitVec.ofInt IntKind.u64.bits d1.flags).toNat:Int))]] [fun v _=>v=(.pointer (some ⟨b831,5,none⟩):Value),fun v _=>v=(.slice A1 d0.plus.length c2:Value),fun v w'=>∃ A863 c864,v=(.slice A863 x862.length c864:Value)∧Stb (b831::(b797::(b777::(b19::L)))) w' (fun w=>SlC (kI .i64) w A863 c864 x862),fun v _=>v=(.pointer (some ⟨b831,6,none⟩):Value),fun v _=>v=(.slice A4 d0.minus.length c5:Value),fun v w'=>∃ A867 c868,v=(.slice A867 x866.length c868:Value)∧Stb (b831::(b797::(b777::(b19::L)))) w' (fun w=>SlC (kI .i64) w A867 c868 x866),fun v _=>v=(.pointer (some ⟨b831,5,none⟩):Value),fun _ _=>True,fun v _=>v=(.pointer (some ⟨b831,6,none⟩):Value),fun _ _=>True] (by kernel_rfl) (allM1 (fun m hm=>by first | exact hm | (simp at hm ⊢; simp [hm]; done) | simp_all) (allM1 (fun m hm=>by first | exact hm | (simp at hm ⊢; simp [hm]; done) | simp_all) (fun _ h=>by cases h))) ⟨fun _ _ _ _ _ h=>h,fun _ _ _ _ _ h=>h,fun _ v w' w'' F h=>by obtain ⟨A863,c864,hv,H865⟩:=h; exact ⟨A863,c864,hv,(H865.ex F)⟩,fun _ _ _ _ _ h=>h,fun _ _ _ _ _ h=>h,fun _ v w' w'' F h=>by obtain ⟨A867,c868,hv,H869⟩:=h; exact ⟨A867,c868,hv,(H869.ex F)⟩,fun _ _ _ _ _ h=>h,fun _ _ _ _ _ h=>h,fun _ _ _ _ _ h=>h,fun _ _ _ _ _ h=>h,trivial⟩ ⟨⟨fun _ _ _ _ _ h=>h,fun _ _ _ _ _ h=>h,fun _ v w' w'' F h=>by obtain ⟨A863,c864,hv,H865⟩:=h; exact ⟨A863,c864,hv,(H865.fr F (by simp))⟩,fun _ _ _ _ _ h=>h,fun _ _ _ _ _ h=>h,fun _ v w' w'' F h=>by obtain ⟨A867,c868,hv,H869⟩:=h; exact ⟨A867,c868,hv,(H869.fr F (by simp))⟩,fun _ _ _ _ _ h=>h,(fun h=>absurd h (by decide)),(fun h=>absurd h (by decide)),(fun h=>absurd h (by decide)),trivial⟩,⟨fun _ _ _ _ _ h=>h,fun _ _ _ _ _ h=>h,fun _ v w' w'' F h=>by obtain ⟨A863,c864,hv,H865⟩:=h; exact ⟨A863,c864,hv,(H865.fr F (by simp))⟩,fun _ _ _ _ _ h=>h,fun _ _ _ _ _ h=>h,fun _ v w' w'' F h=>by obtain ⟨A867,c868,hv,H869⟩:=h; exact ⟨A867,c868,hv,(H869.fr F (by simp))⟩,fun _ _ _ _ _ h=>h,fun _ _ _ _ _ h=>h,fun _ _ _ _ _ h=>h,(fun h=>absurd h (by decide)),trivial⟩,trivial⟩ ⟨fun w' w'' F h=>by have hB861_b831:=h; exact (hB861_b831.ex F),fun w' w'' F h=>by obtain ⟨A863,c864,H865,hB861_b831⟩:=h; exact ⟨A863,c864,(H865.ex F),(hB861_b831.ex F)⟩,fun w' w'' F h=>by obtain ⟨A863,c864,A867,c868,H865,H869,hB861_b831⟩:=h; exact ⟨A863,c864,A867,c868,(H865.ex F),(H869.ex F),(hB861_b831.ex F)⟩,trivial⟩ B849' ?_ ?_ ?_
       ·refine ⟨?_,?_,?_,?_,?_,?_,?_,?_,?_,?_,trivial⟩
        ·intro _ ρ w861o F861o hX hS hρ
         have F861o:=hX 7 rfl rfl
         have q8:ρ 8=.pointer (some ⟨b831,0,none⟩):=hρ 8 (by kernel_rfl)
         exact o_q (r_fa fld_api_Value_5 rfl q8) ⟨Fr.refl _ _,rfl⟩
        ·intro _ ρ w861o F861o hX hS hρ
         have F861o:=hX 7 rfl rfl
         have q34:ρ 34=.pointer (some ⟨b831,5,none⟩):=hS 0 (by decide) 34 rfl
         exact o_q (r_ld one_s_int q34 ((B849'.ex F861o).cell rfl)) ⟨Fr.refl _ _,rfl⟩
        ·intro _ ρ w861o F861o hX hS hρ
         have F861o:=hX 7 rfl rfl
         have E880:=E850.trans F861o
         have q35:ρ 35=.slice A1 d0.plus.length c2:=hS 1 (by decide) 35 rfl
         refine o_call cf_slices_Clone_int (by simp only [List.map,ev,q35] <;> rfl) (slices_Clone_int_c d0.plus (H3.up (G851.trans (Fr.ext F861o)) sI (upc (.inr m835) (upc (.inr m800) (upc (.inr m779) (upc (.inr m20) (fun _ h=>.inl h)))))) (((((hL.fr E880).cons (B856.ex F861o).lt).cons (B857.ex F861o).lt).cons (B858.ex F861o).lt).cons (B849'.ex F861o).lt) hx862) rfl rfl ?_
         intro v' w' hv'
         obtain ⟨F,O,Nn⟩:=hv'
         obtain ⟨A863,c864,ev,H865⟩:=O.still
         subst ev
         exact eo_nil ⟨rfl,rfl,_,rfl,F,⟨A863,c864,rfl,H865⟩⟩
        ·intro _ ρ w861o F861o hX hS hρ
         have F861o:=hX 7 rfl rfl
         have q8:ρ 8=.pointer (some ⟨b831,0,none⟩):=hρ 8 (by kernel_rfl)
         exact o_q (r_fa fld_api_Value_6 rfl q8) ⟨Fr.refl _ _,rfl⟩
        ·intro _ ρ w861o F861o hX hS hρ
         have F861o:=hX 7 rfl rfl
         have q37:ρ 37=.pointer (some ⟨b831,6,none⟩):=hS 3 (by decide) 37 rfl
         exact o_q (r_ld one_s_int q37 ((B849'.ex F861o).cell rfl)) ⟨Fr.refl _ _,rfl⟩
        ·intro _ ρ w861o F861o hX hS hρ
         have F861o:=hX 7 rfl rfl
         have E900:=E850.trans F861o
         have q38:ρ 38=.slice A4 d0.minus.length c5:=hS 4 (by decide) 38 rfl
         refine o_call cf_slices_Clone_int (by simp only [List.map,ev,q38] <;> rfl) (slices_Clone_int_c d0.minus (H6.up (G851.trans (Fr.ext F861o)) sI (upc (.inr m835) (upc (.inr m800) (upc (.inr m779) (upc (.inr m20) (fun _ h=>.inl h)))))) (((((hL.fr E900).cons (B856.ex F861o).lt).cons (B857.ex F861o).lt).cons (B858.ex F861o).lt).cons (B849'.ex F861o).lt) hx866) rfl rfl ?_
         intro v' w' hv'
         obtain ⟨F,O,Nn⟩:=hv'
         obtain ⟨A867,c868,ev,H869⟩:=O.still
         subst ev
         exact eo_nil ⟨rfl,rfl,_,rfl,F,⟨A867,c868,rfl,H869⟩⟩
        ·intro _ ρ w861o F861o hX hS hρ
         have F861o:=hX 7 rfl rfl
         have q8:ρ 8=.pointer (some ⟨b831,0,none⟩):=hρ 8 (by kernel_rfl)
         exact o_q (r_fa fld_api_Value_5 rfl q8) ⟨Fr.refl _ _,rfl⟩
        ·intro hT; exact absurd hT (by decide)
        ·intro _ ρ w861o F861o hX hS hρ
         have q8:ρ 8=.pointer (some ⟨b831,0,none⟩):=hρ 8 (by kernel_rfl)
         exact o_q (r_fa fld_api_Value_6 rfl q8) ⟨Fr.refl _ _,rfl⟩
        ·intro hT; exact absurd hT (by decide)
       ·refine ⟨⟨_,rfl,?_⟩,⟨_,rfl,?_⟩,trivial⟩
        ·intro ρ w861o F861o hX hI hS hρ
         have F861o:=hX rfl
         have hB861_b831:=hI
         obtain ⟨A863,c864,q36,H865⟩:=hS 2 (by decide) 36 rfl
         have q40:ρ 40=.pointer (some ⟨b831,5,none⟩):=hS 6 (by decide) 40 rfl
         refine o_store (show ev ρ _=_ from q40) hB861_b831 (vs:=[.slice A863 x862.length c864]) (congrArg Value.cells q36) sz_s_int rfl rfl rfl ?_
         intro w' F B2
         exact eo_nil ⟨rfl,rfl,undef,rfl,F,⟨A863,c864,(H865.fr F (by simp)),B2⟩,trivial⟩
        ·intro ρ w861o F861o hX hI hS hρ
         obtain ⟨A863,c864,H865,hB861_b831⟩:=hI
         obtain ⟨A867,c868,q39,H869⟩:=hS 5 (by decide) 39 rfl
         have q41:ρ 41=.pointer (some ⟨b831,6,none⟩):=hS 8 (by decide) 41 rfl
         refine o_store (show ev ρ _=_ from q41) hB861_b831 (vs:=[.slice A867 x866.length c868]) (congrArg Value.cells q39) sz_s_int rfl rfl rfl ?_
         intro w' F B2
         exact eo_nil ⟨rfl,rfl,undef,rfl,F,⟨A863,c864,A867,c868,(H865.fr F (by simp)),(H869.fr F (by simp)),B2⟩,trivial⟩
       ·intro ρ w861 F861 hI hS hρ
        obtain ⟨A863,c864,A867,c868,H865,H869,hB861_b831⟩:=hI
        obtain ⟨ρ',rfl⟩:∃ ρ',ρ=envs (ovr [34,35,36,37,38,39,40,41] ρ' _) []:=⟨ρ,ovr_self hρ trivial⟩
        have E929:Ext w w861:=Ext.st E850 F861 (upc n831 (fun m hm=>by cases hm))
        have B935:=B856.fr F861 (fun hm=>(show ∀ m∈_,m≠b19 from (upc (by omega) (fun m hm=>by cases hm))) _ hm rfl)
        have Z861:=Fr.refl (b831::(b797::(b777::(b19::L)))) w861
        refine sq_n ?_
        refine ec_sr ?_
        refine o_w (v:=.agg #[.int .i64 d0.kind,.int .i64 d0.time,.int .i64 d0.node,.bool d0.dead,str d0.text,.slice A863 x862.length c864,.slice A867 x866.length c868,.int .u64 (IntKind.u64.wrap ((BitVec.ofInt IntKind.u64.bits d0.flags ||| BitVec.ofInt IntKind.u64.bits d1.flags).toNat:Int))]) (r_lda agg_api_Value rfl (vs:=[.int .i64 d0.kind,.int .i64 d0.time,.int .i64 d0.node,.bool d0.dead,str d0.text,.slice A863 x862.length c864,.slice A867 x866.length c868,.int .u64 (IntKind.u64.wrap ((BitVec.ofInt IntKind.u64.bits d0.flags ||| BitVec.ofInt IntKind.u64.bits d1.flags).toNat:Int))]) rfl (hB861_b831.part (n:=8) rfl)) ?_
        refine o_store rfl B935 (vs:=[.int .i64 d0.kind,.int .i64 d0.time,.int .i64 d0.node,.bool d0.dead,str d0.text,.slice A863 x862.length c864,.slice A867 x866.length c868,.int .u64 (IntKind.u64.wrap ((BitVec.ofInt IntKind.u64.bits d0.flags ||| BitVec.ofInt IntKind.u64.bits d1.flags).toNat:Int))]) rfl sz_api_Value rfl rfl rfl ?_
        intro w938 F938 B938
        have E939:=Ext.st E929 F938 (by simp; omega)
        have G945:Fr (b831::(b797::(b777::(b19::L)))) w861 w938:=Z861.stp F938 (upc (.inl (mT (mT (mT mH)))) (fun m hm=>by cases hm))
        have B938':Blk w938 b19 _ [.int .i64 d0.kind,.int .i64 d0.time,.int .i64 d0.node,.bool d0.dead,str d0.text,.slice A863 x862.length c864,.slice A867 x866.length c868,.int .u64 (IntKind.u64.wrap ((BitVec.ofInt IntKind.u64.bits d0.flags ||| BitVec.ofInt IntKind.u64.bits d1.flags).toNat:Int))]:=B938
        refine o_w (v:=.int .i64 0) (r_asg rfl) ?_
        refine eo_nil_sq ?_
        refine ec_ret ?_
        subst h
        exact (endr2 (rv_a rfl (agg_api_Value) B938' (vs:=[.int .i64 d0.kind,.int .i64 d0.time,.int .i64 d0.node,.bool d0.dead,str d0.text,.slice A863 x862.length c864,.slice A867 x866.length c868,.int .u64 (IntKind.u64.wrap ((BitVec.ofInt IntKind.u64.bits d0.flags ||| BitVec.ofInt IntKind.u64.bits d1.flags).toNat:Int))]) rfl rfl) (rv_t rfl) ⟨_,rfl,E939,_,rfl,(kVal_mk (d:=(⟨d0.kind,d0.time,d0.node,d0.dead,d0.text,x862,x866,(IntKind.u64.wrap ((BitVec.ofInt IntKind.u64.bits d0.flags ||| BitVec.ofInt IntKind.u64.bits d1.flags).toNat:Int))⟩:Val)) (H865.up G945 sI (fun m hm=>Or.inl (mT (mT (mT (mT hm)))))) (H869.up G945 sI (fun m hm=>Or.inl (mT (mT (mT (mT hm)))))))⟩)
      ·replace h:=h.2 hc770
       refine ec_skip ?_
       refine blk_n ?_
       refine sq_n ?_
       refine ec_sr ?_
       refine o_w (v:=.nilIface) (r_asg rfl) ?_
       refine o_w (v:=.bool false) (r_asg rfl) ?_
       refine eo_nil_sq ?_
       refine ec_ret ?_
       refine end2 (v:=.nilIface) (x:=.bool false) rfl rfl ⟨_,rfl,?_⟩
       refine o_w (v:=.tuple #[.nilIface,.bool false]) (r_mov rfl) ?_
       refine o_w (v:=.nilIface) (r_ext rfl rfl) ?_
       refine o_w (v:=.bool false) (r_ext rfl rfl) ?_
       refine o_w (v:=.nilIface) (r_asg rfl) ?_
       refine o_w (v:=.bool false) (r_asg rfl) ?_
       refine eo_r ?_
       refine o_w (v:=.nilIface) (r_mov rfl) ?_
       refine o_w (v:=.agg (cVal d0 A1 c2 A4 c5).toArray) (r_lda agg_api_Value rfl (vs:=(cVal d0 A1 c2 A4 c5)) rfl ((S13.fr (((G18.trans (Fr.ext F19)).trans (Fr.ext F27)).trans (Fr.ext F39)) sI).now.part (n:=8) rfl)) ?_
       refine o_w (v:=.agg (cVal d1 A7 c8 A10 c11).toArray) (r_lda agg_api_Value rfl (vs:=(cVal d1 A7 c8 A10 c11)) rfl ((S15.fr ((G26.trans (Fr.ext F27)).trans (Fr.ext F39)) sI).now.part (n:=8) rfl)) ?_
       exact h.elim

/-! ### loops -/
theorem wrap64 {n:Int} (h0 : -9223372036854775808≤n) (h1:n<9223372036854775808):IntKind.i64.wrap n=n:=by
 simp [IntKind.wrap,IntKind.bits,IntKind.signed]
 omega
theorem wrapS {i n:Nat} (h:i<n) (hn:n≤9223372036854775807):IntKind.i64.wrap ((i:Int) + (1:Int))=((i + 1:Nat):Int):=by
 rw [wrap64 (by omega) (by omega)]; rfl
theorem loop_scan {Y:Type} {body:Int→Int ⊕ (Int ⊕ Y)→Prop} (n:Nat) (p:Nat→Bool) (r:Nat→Y) (hs:∀ i:Nat,i<n→p i=true→body (i:Int) (.inl ((i + 1:Nat):Int)))
  (hb:∀ i:Nat,i<n→p i=false→body (i:Int) (.inr (.inr (r i)))) (he:body (n:Int) (.inr (.inl (n:Int)))) :
  ∃ x,LoopR body (0:Int) x∧((x=.inl (n:Int)∧∀ i,i<n→p i=true)∨∃ i,i<n∧p i=false∧(∀ j,j<i→p j=true)∧x=.inr (r i)):=by
 have key:∀ d i:Nat,i + d=n→(∀ j,j<i→p j=true)→∃ x,LoopR body (i:Int) x∧((x=.inl (n:Int)∧∀ i,i<n→p i=true)∨∃ i,i<n∧p i=false∧(∀ j,j<i→p j=true)∧x=.inr (r i)):=by
  intro d
  induction d with
  | zero=>intro i hi hp; obtain rfl:i=n:=(by omega); exact ⟨_,.done he,.inl ⟨rfl,hp⟩⟩
  | succ d ih =>
   intro i hi hp
   cases hpi:p i with
   | false=>exact ⟨_,.done (hb i (by omega) hpi),.inr ⟨i,by omega,hpi,hp,rfl⟩⟩
   | true =>
    obtain ⟨x,h1,h2⟩:=ih (i + 1) (by omega) (fun j hj=>by
     rcases Nat.lt_or_ge j i with h | h
     ·exact hp j h
     ·obtain rfl:j=i:=by omega
      exact hpi)
    exact ⟨x,.step (hs i (by omega) hpi) h1,h2⟩
 exact key n 0 (by omega) (fun j hj=>by omega)
theorem loop_fold {S:Type} {body:S→S ⊕ S→Prop} (n:Nat) (st:Nat→S) (hs:∀ i:Nat,i<n→body (st i) (.inl (st (i + 1)))) (he:body (st n) (.inr (st n))):LoopR body (st 0) (st n):=by
 have key:∀ d i:Nat,i + d=n→LoopR body (st i) (st n):=by
  intro d
  induction d with
  | zero=>intro i hi; obtain rfl:i=n:=(by omega); exact .done he
  | succ d ih=>intro i hi; exact .step (hs i (by omega)) (ih (i + 1) (by omega))
 exact key n 0 (by omega)
theorem nth_nat {T:Type} [Inhabited T] (l:List T) (i:Nat):nth l (i:Int)=l.getD i default:=rfl

/-! ### what they are -/
def sm (v:Val):Prop:=v.plus.length≤9223372036854775807∧v.minus.length≤9223372036854775807
instance (v:Val):Decidable (sm v):=inferInstanceAs (Decidable (_∧_))
def sameV (a b:Val):Bool:=a.kind==b.kind&&(a.time==b.time&&(a.node==b.node&&(a.dead==b.dead&&(a.text==b.text&&(a.flags==b.flags&&(a.plus==b.plus&&a.minus==b.minus))))))
theorem sameV_iff {a b:Val}:sameV a b=true↔a=b:=by
 obtain ⟨_,_,_,_,_,_,_,_⟩:=a
 obtain ⟨_,_,_,_,_,_,_,_⟩:=b
 simp only [sameV,Bool.and_eq_true,beq_iff_eq,Val.mk.injEq]
 constructor
 ·rintro ⟨h1,h2,h3,h4,h5,h6,h7,h8⟩; exact ⟨h1,h2,h3,h4,h5,h7,h8,h6⟩
 ·rintro ⟨h1,h2,h3,h4,h5,h7,h8,h6⟩; exact ⟨h1,h2,h3,h4,h5,h6,h7,h8⟩
def okN (l:List Int):Bool:=l.all (fun n=>decide (0≤n)&&decide (n≤65535))&&l.length==8
def noReg (v:Val):Bool:=v.time==0&&(v.node==0&&(!v.dead&&v.text==[]))
def okR (v:Val):Bool:=decide (0≤v.time)&&(decide (v.time≤2147483647)&&(decide (0≤v.node)&&(decide (v.node≤7)&&(decide (v.text.length≤8)&&((!v.dead||v.text==[])&&((v.plus==[]&&v.minus==[])&&v.flags==0))))))
def okC (v:Val):Bool:=okN v.plus&&(okN v.minus&&(noReg v&&v.flags==0))
def okF (v:Val):Bool:=noReg v&&(v.plus==[]&&v.minus==[])
def okV (v:Val):Bool:=bif v.kind==1 then okR v else bif v.kind==2 then okC v else v.kind==3&&okF v
def checkV (v:Val):Int:=bif okV v then 0 else 2
def zeroV:Val:=⟨0,0,0,false,[],[],[],0⟩
def behind (a b:Val):Bool :=
 bif a.time != b.time then decide (b.time<a.time) else bif a.node != b.node then decide (b.node<a.node) else bif !(a.dead==b.dead) then a.dead else !(Op.bytesLess a.text b.text||a.text==b.text)
def mostL (a b:List Int):List Int:=List.zipWith max a b
def orF (a b:Int):Int:=IntKind.u64.wrap ((BitVec.ofInt IntKind.u64.bits a ||| BitVec.ofInt IntKind.u64.bits b).toNat:Int)
def joinV (a b:Val):Val × Int :=
 bif !okV a then (zeroV,2) else bif !okV b then (zeroV,2) else bif a.kind != b.kind then (zeroV,3) else
 bif a.kind==1 then (bif behind b a then b else a,0) else
 bif a.kind==2 then (⟨a.kind,a.time,a.node,a.dead,a.text,mostL a.plus b.plus,mostL a.minus b.minus,0⟩,0) else (⟨a.kind,a.time,a.node,a.dead,a.text,[],[],orF a.flags b.flags⟩,0)
def belowV (a b:Val):Bool:=(joinV a b).2==0&&sameV (joinV a b).1 b
def fewV (v:Val):Bool:=decide (v.text.length≤100)&&(decide (v.plus.length≤40)&&decide (v.minus.length≤40))

/-! ### lists -/
theorem eq_of_nth {a b:List Int} (hl:a.length=b.length) (h:∀ i,i<a.length→(a.getD i default==b.getD i default)=true):(a==b)=true:=by
 rw [beq_iff_eq]
 apply List.ext_getElem hl
 intro i h1 h2
 have:=h i h1
 simpa [h1,h2] using this
theorem ne_of_nth {a b:List Int} {i:Nat} (h:(a.getD i default==b.getD i default)=false):(a==b)=false:=by
 rw [beq_eq_false_iff_ne] at h ⊢
 rintro rfl; exact h rfl
theorem equal_ev (a b:List Int) (ha:a.length≤9223372036854775807):slices_Equal_int_raw a b (a==b):=by
 refine ⟨fun h=>?_,fun h=>?_⟩
 ·have:¬ ((a.length:Int)=b.length):=by simpa using h
  rw [beq_eq_false_iff_ne]; rintro rfl; exact this rfl
 ·have hl:a.length=b.length:=by
   have:¬ (a.length:Int)≠b.length:=by simpa using h
   omega
  obtain ⟨x,hx,h2⟩:=loop_scan (body:=slices_Equal_int_b2 a b) a.length (fun i=>a.getD i default==b.getD i default) (fun _=>false)
   (fun i hi hp=>⟨fun _=>⟨⟨by omega,by omega⟩,⟨by omega,by omega⟩,fun h=>(by rw [nth_nat,nth_nat,bne,hp] at h; cases h),fun _=>by rw [wrapS hi (by omega)]⟩,fun h=>by simp at h; omega⟩)
   (fun i hi hp=>⟨fun _=>⟨⟨by omega,by omega⟩,⟨by omega,by omega⟩,fun _=>rfl,fun h=>(by rw [nth_nat,nth_nat,bne,hp] at h; cases h)⟩,fun h=>by simp at h; omega⟩)
   ⟨fun h=>by simp at h,fun _=>rfl⟩
  refine ⟨x,hx,fun s e=>?_,fun y e=>?_⟩
  ·rcases h2 with ⟨_,h3⟩ | ⟨i,_,_,_,h6⟩
   ·exact eq_of_nth hl h3
   ·rw [e] at h6; cases h6
  ·rcases h2 with ⟨h3,_⟩ | ⟨i,_,h4,_,h6⟩
   ·rw [e] at h3; cases h3
   ·rw [e] at h6; cases h6; exact ne_of_nth h4
theorem contains_ev (l:List Int) (hl:l.length≤9223372036854775807):slices_ContainsFunc_int_is_1_raw l (!(l.all (fun n=>decide (0≤n)&&decide (n≤65535)))):=by
 have hodd:∀ n:Int,value_counter_is_1_raw n (!(decide (0≤n)&&decide (n≤65535))):=fun n=>by
  unfold value_counter_is_1_raw
  rw [Bool.eq_iff_iff]; simp
 obtain ⟨x,hx,h2⟩:=loop_scan (body:=slices_IndexFunc_int_is_1_b1 l) l.length (fun i=>decide (0≤l.getD i default)&&decide (l.getD i default≤65535)) (fun i=>(i:Int))
  (fun i hi hp=>⟨fun _=>⟨⟨by omega,by omega⟩,_,hodd _,fun h=>(by rw [nth_nat,hp] at h; cases h),fun _=>by rw [wrapS hi (by omega)]⟩,fun h=>by simp at h; omega⟩)
  (fun i hi hp=>⟨fun _=>⟨⟨by omega,by omega⟩,_,hodd _,fun h=>rfl,fun h=>(by rw [nth_nat,hp] at h; cases h)⟩,fun h=>by simp at h; omega⟩)
  ⟨fun h=>by simp at h,fun _=>rfl⟩
 rcases h2 with ⟨h3,h4⟩ | ⟨i,hi,h4,_,h6⟩
 ·refine ⟨-1,⟨x,hx,fun _ _=>rfl,fun y e=>by rw [e] at h3; cases h3⟩,?_⟩
  have:l.all (fun n=>decide (0≤n)&&decide (n≤65535))=true:=by
   rw [List.all_eq_true]
   intro n hn
   obtain ⟨i,hi,rfl⟩:=List.getElem_of_mem hn
   have:=h4 i hi
   simpa [hi] using this
  rw [this]; rfl
 ·refine ⟨(i:Int),⟨x,hx,fun s e=>(by rw [e] at h6; cases h6),fun y e=>(by rw [e] at h6; cases h6; rfl)⟩,?_⟩
  have:l.all (fun n=>decide (0≤n)&&decide (n≤65535))=false:=by
   rw [List.all_eq_false]
   refine ⟨l[i],List.getElem_mem hi,?_⟩
   simpa [hi] using h4
  rw [this]; simp
theorem same_ev (a b:Val) (ha:sm a) {E:List Int→List Int→Bool→Prop} (hE:E=slices_Equal_int_raw) {raw:Val→Val→Bool→Prop}
  (hr:raw=fun d0 d1 y=>∃ x21,(((((((d0.kind==d1.kind)&&(d0.time==d1.time))&&(d0.node==d1.node))&&(d0.dead==d1.dead))&&(d0.text==d1.text))&&(d0.flags==d1.flags))=true→E d0.plus d1.plus x21)∧(∃ x26,((((((((d0.kind==d1.kind)&&(d0.time==d1.time))&&(d0.node==d1.node))&&(d0.dead==d1.dead))&&(d0.text==d1.text))&&(d0.flags==d1.flags))&&x21)=true→E d0.minus d1.minus x26)∧(y=((((((((d0.kind==d1.kind)&&(d0.time==d1.time))&&(d0.node==d1.node))&&(d0.dead==d1.dead))&&(d0.text==d1.text))&&(d0.flags==d1.flags))&&x21)&&x26)))) :
  raw a b (sameV a b):=by
 subst hr; subst hE
 exact ⟨_,fun _=>equal_ev _ _ ha.1,_,fun _=>equal_ev _ _ ha.2,by simp only [sameV,Bool.and_assoc]⟩
theorem valSame_ev (a b:Val) (ha:sm a):value_Same_raw a b (sameV a b):=same_ev a b ha rfl rfl

theorem dec_cast {n m:Nat}:decide ((n:Int)≤(m:Int))=decide (n≤m):=by rw [Bool.eq_iff_iff]; simp
theorem dec_lt8 {n:Int}:decide (n<8)=decide (n≤7):=by rw [Bool.eq_iff_iff]; simp; omega
theorem chk_ev {d:Val} {b:Bool} (e:b=okV d):(b=true→checkV d=0)∧(b=false→checkV d=2):=by
 subst e; unfold checkV
 exact ⟨fun h=>by rw [h]; rfl,fun h=>by rw [h]; rfl⟩
theorem checkV_f {d:Val} (h:okV d=false):checkV d=2:=by unfold checkV; rw [h]; rfl
theorem okN_and (l:List Int):okN l=(((l.length:Int)==8)&&l.all (fun n=>decide (0≤n)&&decide (n≤65535))):=by
 unfold okN; rw [Bool.and_comm]; congr 1; rw [Bool.eq_iff_iff]; simp; omega
theorem sameV_reg (d:Val):sameV d ⟨d.kind,d.time,d.node,d.dead,d.text,[],[],0⟩=(d.flags==0&&(d.plus==[]&&d.minus==[])):=by simp [sameV]
theorem sameV_cnt (d:Val):sameV d ⟨d.kind,0,0,false,[],d.plus,d.minus,0⟩=(noReg d&&d.flags==0):=by simp [sameV,noReg,Bool.and_assoc]
theorem sameV_flg (d:Val):sameV d ⟨d.kind,0,0,false,[],[],[],d.flags⟩=(noReg d&&(d.plus==[]&&d.minus==[])):=by simp [sameV,noReg,Bool.and_assoc]
theorem valCheck_ev (d:Val) (h:sm d):value_Check_raw d (checkV d):=by
 have hl:decide ((d.text.length:Int)≤8)=decide (d.text.length≤8):=dec_cast (m:=8)
 have s1:=valSame_ev d ⟨d.kind,d.time,d.node,d.dead,d.text,[],[],0⟩ h
 have s2:=valSame_ev d ⟨d.kind,0,0,false,[],d.plus,d.minus,0⟩ h
 have s3:=valSame_ev d ⟨d.kind,0,0,false,[],[],[],d.flags⟩ h
 rw [sameV_reg] at s1
 rw [sameV_cnt] at s2
 rw [sameV_flg] at s3
 unfold value_Check_raw
 rw [hl,dec_lt8]
 have e:okV d=bif d.kind==1 then okR d else bif d.kind==2 then okC d else d.kind==3&&okF d:=rfl
 refine ⟨fun k1=>⟨_,s1,chk_ev ?_⟩,fun k1=>⟨fun k2=>⟨_,s2,_,fun _=>contains_ev _ h.1,_,fun _=>contains_ev _ h.2,chk_ev ?_⟩,fun k2=>⟨fun k3=>⟨_,s3,chk_ev ?_⟩,fun k3=>?_⟩⟩⟩
 ·rw [e,k1,cond_true]; unfold okR; ac_rfl
 ·rw [e,k1,k2,cond_false,cond_true]; unfold okC; rw [okN_and,okN_and]; simp only [Bool.not_not]; ac_rfl
 ·rw [e,k1,k2,k3,cond_false,cond_false]; rfl
 ·exact checkV_f (by rw [e,k1,k2,k3,cond_false,cond_false]; rfl)

theorem bit_ev (b:Bool):value_bit_raw b (bif b then 1 else 0):=by cases b <;> exact ⟨fun h=>by cases h <;> rfl,fun h=>by cases h <;> rfl⟩
def cmpI (a b:Int):Int:=bif decide (a<b) then -1 else bif decide (b<a) then 1 else 0
theorem cmpI_ev (a b:Int):cmp_Compare_int_raw a b (cmpI a b):=by
 have e:∀ a:Int,cmp_isNaN_int_raw a false:=fun a=>by simp [cmp_isNaN_int_raw]
 unfold cmpI
 refine ⟨_,e a,_,e b,fun h=>(by cases h),fun _=>⟨fun h=>(by cases h),fun _=>⟨fun h=>?_,fun h=>⟨fun h1=>?_,fun h1=>?_⟩⟩⟩⟩ <;> simp only [*,cond_true,cond_false]
def cmpS (a b:Str):Int:=bif Op.bytesLess a b then -1 else bif !(Op.bytesLess a b||a==b) then 1 else 0
theorem cmpS_ev (a b:Str):cmp_Compare_string_raw a b (cmpS a b):=by
 have e:∀ a:Str,cmp_isNaN_string_raw a false:=fun a=>by simp [cmp_isNaN_string_raw]
 unfold cmpS
 refine ⟨_,e a,_,e b,fun h=>(by cases h),fun _=>⟨fun h=>(by cases h),fun _=>⟨fun h=>?_,fun h=>⟨fun h1=>?_,fun h1=>?_⟩⟩⟩⟩
 ·rw [h]; rfl
 ·rw [h1,h]; rfl
 ·rw [h1,h]; rfl
def firstL:List Int→Int
 | []=>0
 | n::l=>bif n != 0 then n else firstL l
theorem first_ev (l:List Int) (hl:l.length≤9223372036854775807):value_first_raw l (firstL l):=by
 obtain ⟨x,hx,h2⟩:=loop_scan (body:=value_first_b1 l) l.length (fun i=>l.getD i default==0) (fun i=>l.getD i default)
  (fun i hi hp=>⟨fun _=>⟨⟨by omega,by omega⟩,fun h=>(by rw [nth_nat,bne,hp] at h; cases h),fun _=>by rw [wrapS hi (by omega)]⟩,fun h=>by simp at h; omega⟩)
  (fun i hi hp=>⟨fun _=>⟨⟨by omega,by omega⟩,fun h=>(by rw [nth_nat]),fun h=>(by rw [nth_nat,bne,hp] at h; cases h)⟩,fun h=>by simp at h; omega⟩)
  ⟨fun h=>by simp at h,fun _=>rfl⟩
 have key:∀ (l:List Int),((∀ i,i<l.length→(l.getD i default==0)=true)→firstL l=0)∧(∀ i,i<l.length→(l.getD i default==0)=false→(∀ j,j<i→(l.getD j default==0)=true)→firstL l=l.getD i default):=by
  intro l
  induction l with
  | nil=>exact ⟨fun _=>rfl,fun i hi=>by simp at hi⟩
  | cons n l ih =>
   refine ⟨fun h=>?_,fun i hi h1 h2=>?_⟩
   ·have h0:=h 0 (by simp)
    simp at h0
    unfold firstL
    rw [h0]
    exact ih.1 fun i hi=>by have:=h (i + 1) (by simpa using hi); simpa using this
   ·cases i with
    | zero =>
     have h3:(n==0)=false:=by simpa using h1
     unfold firstL; simp [bne,h3]
    | succ i =>
     have h0:=h2 0 (by omega)
     simp at h0
     unfold firstL
     rw [h0]
     have:=ih.2 i (by simpa using hi) (by simpa using h1) (fun j hj=>by have:=h2 (j + 1) (by omega); simpa using this)
     simpa using this
 refine ⟨x,hx,fun s e=>?_,fun y e=>?_⟩
 ·rcases h2 with ⟨_,h3⟩ | ⟨i,_,_,_,h6⟩
  ·exact (key l).1 h3
  ·rw [e] at h6; cases h6
 ·rcases h2 with ⟨h3,_⟩ | ⟨i,hi,h4,h5,h6⟩
  ·rw [e] at h3; cases h3
  ·rw [e] at h6; cases h6; exact (key l).2 i hi h4 h5
theorem bytesLess_irr (a:Str):Op.bytesLess a a=false:=by rw [bytesLess_eq]; simp
theorem bytesLess_tri (a b:Str):Op.bytesLess b a=!(Op.bytesLess a b||a==b):=by
 rw [bytesLess_eq,bytesLess_eq,Bool.eq_iff_iff]
 simp only [decide_eq_true_eq,Bool.not_eq_true',Bool.or_eq_false_iff,decide_eq_false_iff_not,beq_eq_false_iff_ne]
 constructor
 ·intro h; exact ⟨List.lt_asymm h,fun e=>by subst e; exact List.lt_irrefl _ h⟩
 ·rintro ⟨h1,h2⟩
  have h3:=List.not_lt.1 h1
  rcases List.le_iff_lt_or_eq.1 h3 with h | h
  ·exact h
  ·exact absurd h.symm h2
/-- Of the first four's words, the first that is not 0 is less than 0: then b is behind a. -/
theorem first_behind (a b : Val) : decide (firstL [cmpI a.time b.time, cmpI a.node b.node, IntKind.i64.wrap ((bif a.dead then 1 else 0) - (bif b.dead then 1 else 0)), cmpS a.text b.text] < 0) = behind b a := by
  have ht := bytesLess_tri a.text b.text
  have ht' := bytesLess_tri b.text a.text
  have hi := bytesLess_irr a.text
  have w : ∀ x y : Bool, IntKind.i64.wrap ((bif x then 1 else 0) - (bif y then 1 else 0) : Int) = (bif x then 1 else 0) - (bif y then 1 else 0) := by intro x y; cases x <;> cases y <;> decide
  rw [w]
  unfold behind
  by_cases h1 : a.time = b.time
  · have e1 : cmpI a.time b.time = 0 := by simp [cmpI, h1]
    have e1' : (b.time != a.time) = false := by simp [h1]
    rw [e1, e1', cond_false]
    simp only [firstL, bne_self_eq_false, cond_false]
    by_cases h2 : a.node = b.node
    · have e2 : cmpI a.node b.node = 0 := by simp [cmpI, h2]
      have e2' : (b.node != a.node) = false := by simp [h2]
      rw [e2, e2', cond_false]
      simp only [firstL, bne_self_eq_false, cond_false]
      cases a.dead <;> cases b.dead
      · simp only [cond_false, Int.sub_self, bne_self_eq_false, BEq.rfl, Bool.not_true]
        unfold cmpS
        rw [← ht, ← ht']
        cases h5 : Op.bytesLess a.text b.text <;> cases h6 : Op.bytesLess b.text a.text <;> simp
      · simp
      · simp
      · simp only [cond_true, Int.sub_self, bne_self_eq_false, BEq.rfl, Bool.not_true, cond_false]
        unfold cmpS
        rw [← ht, ← ht']
        cases h5 : Op.bytesLess a.text b.text <;> cases h6 : Op.bytesLess b.text a.text <;> simp
    · have e2' : (b.node != a.node) = true := by simp; omega
      rw [e2', cond_true]
      rcases Int.lt_or_lt_of_ne h2 with h | h
      · have : cmpI a.node b.node = -1 := by simp [cmpI, h]
        rw [this]; simp [h]
      · have : cmpI a.node b.node = 1 := by simp [cmpI, h, show ¬ a.node < b.node by omega]
        rw [this]; simp; omega
  · have e1' : (b.time != a.time) = true := by simp; omega
    rw [e1', cond_true]
    rcases Int.lt_or_lt_of_ne h1 with h | h
    · have : cmpI a.time b.time = -1 := by simp [cmpI, h]
      rw [this]; simp [firstL, h]
    · have : cmpI a.time b.time = 1 := by simp [cmpI, h, show ¬ a.time < b.time by omega]
      rw [this]; simp [firstL]; omega

theorem clone_ev (l:List Int) (hl:l.length≤100000):slices_Clone_int_raw l l:=by
 refine ⟨fun h=>h,⟨by simp; omega,by simp; omega⟩,by simp⟩
theorem mostL_nth (a b:List Int) (h:a.length=b.length) (i:Nat) (hi:i<a.length):(mostL a b).getD i default=max (a.getD i default) (b.getD i default):=by
 have hb:i<b.length:=by omega
 simp [mostL,List.getElem?_zipWith,hi,hb]
theorem joinMost_ev (a b:List Int) (h:a.length=b.length) (hl:a.length≤100000):value_counter_join_1_raw a b (mostL a b):=by
 have hlen:(mostL a b).length=a.length:=by simp [mostL]; omega
 have:=loop_fold (body:=value_counter_join_1_b5 b) b.length (fun i=>((i:Int),(mostL a b).take i++a.drop i))
  (fun i hi=>by
   have hia:i<a.length:=by omega
   have hll:((mostL a b).take i++a.drop i).length=a.length:=by simp [hlen]; omega
   have hg:((mostL a b).take i++a.drop i).getD i default=a.getD i default:=by
    simp [List.getElem?_append,hlen,Nat.min_eq_left (show i≤a.length by omega)]
   refine ⟨fun _=>⟨⟨by simp,by simp; omega⟩,⟨by simp,by rw [hll]; simp; omega⟩,⟨by simp,by rw [hll]; simp; omega⟩,?_⟩,fun h=>by simp at h; omega⟩
   simp only
   rw [wrapS hi (by omega),nth_nat,nth_nat,hg,← mostL_nth a b h i hia,Int.toNat_natCast]
   congr 2
   apply List.ext_getElem?
   intro q
   rw [List.getElem?_set]
   have e1:(List.take (i + 1) (mostL a b)++List.drop (i + 1) a)[q]?=if q<i + 1 then (mostL a b)[q]? else a[q]?:=by
    rw [List.getElem?_append]
    simp only [List.length_take,hlen,Nat.min_eq_left (show i + 1≤a.length by omega)]
    split
    ·rw [List.getElem?_take,if_pos (by assumption)]
    ·rw [List.getElem?_drop]; congr 1; omega
   have e2:(List.take i (mostL a b)++List.drop i a)[q]?=if q<i then (mostL a b)[q]? else a[q]?:=by
    rw [List.getElem?_append]
    simp only [List.length_take,hlen,Nat.min_eq_left (show i≤a.length by omega)]
    split
    ·rw [List.getElem?_take,if_pos (by assumption)]
    ·rw [List.getElem?_drop]; congr 1; omega
   rw [e1,e2,hll]
   by_cases hq:i=q
   ·subst hq
    rw [if_pos rfl,if_pos hia,if_pos (by omega)]
    simp [hlen,hia]
   ·rw [if_neg hq]
    by_cases h3:q<i
    ·rw [if_pos h3,if_pos (by omega)]
    ·rw [if_neg h3,if_neg (by omega)])
  ⟨fun h=>by simp at h,fun _=>rfl⟩
 refine ⟨a,clone_ev a hl,_,by simpa using this,?_⟩
 simp [← h,← hlen]

/-! ### Join and what is made of it -/
theorem okV_c {v:Val} (h:okV v=true) (k1:(v.kind==1)=false) (k:(v.kind==2)=true):v.plus.length=8∧v.minus.length=8∧v.flags=0∧noReg v=true:=by
 unfold okV at h; rw [k1,k,cond_true,cond_false] at h
 simp only [okC,okN,Bool.and_eq_true,beq_iff_eq] at h
 exact ⟨h.1.2,h.2.1.2,h.2.2.2,h.2.2.1⟩
theorem okV_f {v:Val} (h:okV v=true) (k1:(v.kind==1)=false) (k2:(v.kind==2)=false):(v.kind==3)=true∧v.plus=[]∧v.minus=[]∧noReg v=true:=by
 unfold okV at h; rw [k1,k2,cond_false,cond_false] at h
 simp only [okF,Bool.and_eq_true,beq_iff_eq] at h
 exact ⟨by simpa using h.1,h.2.2.1,h.2.2.2,h.2.1⟩
theorem kind_eq {a b:Val} (h:(a.kind != b.kind)=false):b.kind=a.kind:=by simp at h; exact h.symm
theorem okV_len {v:Val} (h:okV v=true):v.plus.length≤100000∧v.minus.length≤100000:=by
 cases k1:v.kind==1 with
 | true =>
  unfold okV okR at h
  rw [k1] at h
  simp only [cond_true,Bool.and_eq_true,beq_iff_eq] at h
  have e1:v.plus=[]:=by simp_all
  have e2:v.minus=[]:=by simp_all
  rw [e1,e2]; exact ⟨Nat.zero_le _,Nat.zero_le _⟩
 | false =>
  cases k2:v.kind==2 with
  | true=>obtain ⟨a1,a2,_⟩:=okV_c h k1 k2; omega
  | false=>obtain ⟨_,a1,a2,_⟩:=okV_f h k1 k2; rw [a1,a2]; exact ⟨Nat.zero_le _,Nat.zero_le _⟩
theorem checkV_ne (v:Val):(checkV v != 0)=!okV v:=by unfold checkV; cases okV v <;> rfl
theorem lenC {v:Val} (h:(checkV v != 0)=false):v.plus.length≤100000∧v.minus.length≤100000:=okV_len (by rw [checkV_ne] at h; simpa using h)
theorem valJoin_ev (a b:Val) (ha:sm a) (hb:sm b):value_Join_raw a b (joinV a b):=by
 refine ⟨_,valCheck_ev a ha,fun h1=>?_,fun h1=>⟨_,valCheck_ev b hb,fun h2=>?_,fun h2=>⟨fun h3=>?_,fun h3=>⟨fun k1=>⟨_,cmpI_ev _ _,_,cmpI_ev _ _,_,bit_ev _,_,bit_ev _,_,cmpS_ev _ _,_,first_ev _ (by simp),fun h4=>⟨_,clone_ev _ (lenC h2).1,_,clone_ev _ (lenC h2).2,?_⟩,fun h4=>⟨_,clone_ev _ (lenC h1).1,_,clone_ev _ (lenC h1).2,?_⟩⟩,fun k1=>?_⟩⟩⟩⟩ <;>
  rw [checkV_ne] at h1 <;> (try rw [checkV_ne] at h2)
 ·unfold joinV; rw [h1]; rfl
 ·unfold joinV; rw [h1,h2]; rfl
 ·unfold joinV; rw [h1,h2,h3]; rfl
 ·rw [first_behind] at h4; unfold joinV; rw [h1,h2,h3,k1,h4]; rfl
 ·rw [first_behind] at h4; unfold joinV; rw [h1,h2,h3,k1,h4]; rfl
 ·have hk:=kind_eq h3
  have oka:okV a=true:=by simpa using h1
  have okb:okV b=true:=by simpa using h2
  refine ⟨fun k2=>?_,fun k2=>⟨fun k3=>?_,fun k3=>?_⟩⟩
  ·obtain ⟨a1,a2,a3,_⟩:=okV_c oka k1 k2
   obtain ⟨b1,b2,b3,_⟩:=okV_c okb (by rw [hk]; exact k1) (by rw [hk]; exact k2)
   have l1:(mostL a.plus b.plus).length=8:=by simp [mostL,a1,b1]
   have l2:(mostL a.minus b.minus).length=8:=by simp [mostL,a2,b2]
   refine ⟨_,joinMost_ev _ _ (by omega) (okV_len oka).1,_,joinMost_ev _ _ (by omega) (okV_len oka).2,_,clone_ev _ (by omega),_,clone_ev _ (by omega),?_⟩
   unfold joinV; rw [h1,h2,h3,k1,k2]
   simp only [cond_false,cond_true,a3]
  ·obtain ⟨_,a1,a2,_⟩:=okV_f oka k1 k2
   refine ⟨_,clone_ev _ (okV_len oka).1,_,clone_ev _ (okV_len oka).2,?_⟩
   unfold joinV; rw [h1,h2,h3,k1,k2]
   simp only [cond_false,a1,a2]
   rfl
  ·rw [(okV_f oka k1 k2).1] at k3; cases k3
theorem mostL_len (a b:List Int):(mostL a b).length≤a.length:=by simp only [mostL,List.length_zipWith]; omega
theorem sm_join {a b:Val} (ha:sm a) (hb:sm b):sm (joinV a b).1:=by
 have hz:sm zeroV:=by decide
 unfold joinV
 cases okV a <;> cases okV b <;> cases (a.kind != b.kind) <;> cases (a.kind==1) <;> cases (a.kind==2) <;> cases behind b a <;> simp only [cond_true,cond_false,Bool.not_true,Bool.not_false] <;>
  first | exact ha | exact hb | exact hz | exact ⟨Nat.le_trans (mostL_len _ _) ha.1,Nat.le_trans (mostL_len _ _) ha.2⟩ | exact ⟨Nat.zero_le _,Nat.zero_le _⟩
theorem okV_cc {v:Val} (h:okV v=true) (k:v.kind=2):okN v.plus=true∧okN v.minus=true∧v.plus.length=8∧v.minus.length=8:=by
 unfold okV at h; rw [k] at h
 have h:okC v=true:=h
 simp only [okC,Bool.and_eq_true] at h
 have l1:=h.1
 have l2:=h.2.1
 simp only [okN,Bool.and_eq_true,beq_iff_eq] at l1 l2
 exact ⟨h.1,h.2.1,l1.2,l2.2⟩
theorem few_ev (v:Val):law06_Few_raw v (fewV v):=by
 have e1:decide ((v.text.length:Int)≤100)=decide (v.text.length≤100):=dec_cast (m:=100)
 have e2:decide ((v.plus.length:Int)≤40)=decide (v.plus.length≤40):=dec_cast (m:=40)
 have e3:decide ((v.minus.length:Int)≤40)=decide (v.minus.length≤40):=dec_cast (m:=40)
 unfold law06_Few_raw fewV
 rw [e1,e2,e3,Bool.and_assoc]
theorem few_sm {v:Val} (h:fewV v=true):sm v:=by
 simp only [fewV,Bool.and_eq_true,decide_eq_true_eq] at h
 exact ⟨by omega,by omega⟩
def worksV:Bool:=true

/-! ### what lies in a word -/
def inI (n:Int):Prop:=-9223372036854775808≤n∧n<9223372036854775808
def inU (n:Int):Prop:=0≤n∧n<18446744073709551616
structure WfV (v:Val):Prop where
 kind:inI v.kind
 time:inI v.time
 node:inI v.node
 plus:∀ x∈v.plus,inI x
 minus:∀ x∈v.minus,inI x
 flags:inU v.flags
theorem orF_nat {a b:Int} (ha:inU a) (hb:inU b):orF a b=((a.toNat ||| b.toNat:Nat):Int):=by
 obtain ⟨n,rfl⟩:=Int.eq_ofNat_of_zero_le ha.1
 obtain ⟨m,rfl⟩:=Int.eq_ofNat_of_zero_le hb.1
 have hn:n<2 ^ 64:=by have:=ha.2; omega
 have hm:m<2 ^ 64:=by have:=hb.2; omega
 have hnm:n ||| m<2 ^ 64:=Nat.or_lt_two_pow hn hm
 unfold orF
 have e:(BitVec.ofInt IntKind.u64.bits (n:Int) ||| BitVec.ofInt IntKind.u64.bits (m:Int)).toNat=n ||| m:=by
  rw [BitVec.toNat_or,BitVec.toNat_ofInt,BitVec.toNat_ofInt]
  have h64:IntKind.u64.bits=64:=rfl
  rw [h64]
  have e1:((n:Int) % ((2 ^ 64:Nat):Int)).toNat=n:=by omega
  have e2:((m:Int) % ((2 ^ 64:Nat):Int)).toNat=m:=by omega
  rw [e1,e2]
 rw [e]
 have:IntKind.u64.wrap ((n ||| m:Nat):Int)=((n ||| m:Nat):Int):=by
  simp [IntKind.wrap,IntKind.bits,IntKind.signed]
  omega
 rw [this]; simp
theorem orF_in {a b:Int} (ha:inU a) (hb:inU b):inU (orF a b):=by
 rw [orF_nat ha hb]
 have h1:a.toNat<2 ^ 64:=by have:=ha.1; have:=ha.2; omega
 have h2:b.toNat<2 ^ 64:=by have:=hb.1; have:=hb.2; omega
 have:=Nat.or_lt_two_pow h1 h2
 unfold inU; omega
theorem orF_self {a:Int} (ha:inU a):orF a a=a:=by
 rw [orF_nat ha ha,Nat.or_self]; have:=ha.1; omega
theorem orF_comm {a b:Int} (ha:inU a) (hb:inU b):orF a b=orF b a:=by
 rw [orF_nat ha hb,orF_nat hb ha,Nat.or_comm]
theorem orF_assoc {a b c:Int} (ha:inU a) (hb:inU b) (hc:inU c):orF (orF a b) c=orF a (orF b c):=by
 rw [orF_nat (orF_in ha hb) hc,orF_nat ha (orF_in hb hc),orF_nat ha hb,orF_nat hb hc]
 simp only [Int.toNat_natCast,Nat.or_assoc]

/-! ### the greater of two -/
theorem mostL_self (a:List Int):mostL a a=a:=by
 unfold mostL
 apply List.ext_getElem
 ·simp
 ·intro i h1 h2
  simp
theorem mostL_comm (a b:List Int):mostL a b=mostL b a:=by
 unfold mostL
 apply List.ext_getElem
 ·simp; omega
 ·intro i h1 h2
  simp only [List.getElem_zipWith]; omega
theorem mostL_assoc (a b c:List Int):mostL (mostL a b) c=mostL a (mostL b c):=by
 unfold mostL
 apply List.ext_getElem
 ·simp
 ·intro i h1 h2
  simp only [List.getElem_zipWith]; omega
theorem mostL_length (a b:List Int):(mostL a b).length=min a.length b.length:=by unfold mostL; simp
theorem mostL_mem {a b:List Int} {x:Int} (h:x∈mostL a b):x∈a∨x∈b:=by
 unfold mostL at h
 obtain ⟨i,hi,rfl⟩:=List.getElem_of_mem h
 simp only [List.length_zipWith] at hi
 rw [List.getElem_zipWith]
 by_cases hle:a[i]≤b[i]
 ·right; rw [Int.max_eq_right hle]; exact List.getElem_mem _
 ·left; rw [Int.max_eq_left (by omega)]; exact List.getElem_mem _

/-! ### which of two registers is behind: texts in order -/
theorem lt_str {x y:Str}:Op.bytesLess x y=decide (x<y):=bytesLess_eq x y
theorem behind_irrefl (a:Val):behind a a=false:=by
 unfold behind; simp
def ltR (a b:Val):Prop:=a.time<b.time∨(a.time=b.time∧(a.node<b.node∨(a.node=b.node∧((a.dead=false∧b.dead=true)∨(a.dead=b.dead∧a.text<b.text)))))
theorem behind_iff (a b:Val):behind b a=true↔ltR a b:=by
 have hs:(!(Op.bytesLess b.text a.text||b.text==a.text))=true↔a.text<b.text:=by
  rw [lt_str]
  simp only [Bool.not_eq_true',Bool.or_eq_false_iff,decide_eq_false_iff_not,beq_eq_false_iff_ne]
  constructor
  ·rintro ⟨h1,h2⟩
   rcases List.le_iff_lt_or_eq.1 (List.not_lt.1 h1) with h | h
   ·exact h
   ·exact absurd h.symm h2
  ·intro h
   exact ⟨List.lt_asymm h,fun e=>List.lt_irrefl _ (e ▸ h)⟩
 unfold behind ltR
 by_cases h1:b.time=a.time
 ·have e1:(b.time != a.time)=false:=by simp [h1]
  rw [e1,cond_false]
  by_cases h2:b.node=a.node
  ·have e2:(b.node != a.node)=false:=by simp [h2]
   rw [e2,cond_false]
   by_cases h3:b.dead=a.dead
   ·have e3:(!(b.dead==a.dead))=false:=by simp [h3]
    rw [e3,cond_false,hs]
    simp [h1,h2,h3]
   ·have e3:(!(b.dead==a.dead))=true:=by simp [h3]
    rw [e3,cond_true]
    cases hb:b.dead <;> cases ha:a.dead <;> simp_all
  ·have e2:(b.node != a.node)=true:=by simp [h2]
   rw [e2,cond_true,decide_eq_true_eq]
   have h2':¬ a.node=b.node:=fun e=>h2 e.symm
   simp [h1,h2']
 ·have e1:(b.time != a.time)=true:=by simp [h1]
  rw [e1,cond_true,decide_eq_true_eq]
  have h1':¬ a.time=b.time:=fun e=>h1 e.symm
  simp [h1']
theorem ltR_trans {a b c:Val} (h:ltR a b) (k:ltR b c):ltR a c:=by
 unfold ltR at *
 rcases h with h | ⟨h1,h⟩
 ·rcases k with k | ⟨k1,_⟩ <;> (left; omega)
 ·rcases k with k | ⟨k1,k⟩
  ·left; omega
  ·right; refine ⟨by omega,?_⟩
   rcases h with h | ⟨h2,h⟩
   ·rcases k with k | ⟨k2,_⟩ <;> (left; omega)
   ·rcases k with k | ⟨k2,k⟩
    ·left; omega
    ·right; refine ⟨by omega,?_⟩
     rcases h with ⟨h3,h4⟩ | ⟨h3,h4⟩
     ·rcases k with ⟨k3,_⟩ | ⟨k3,_⟩
      ·rw [h4] at k3; cases k3
      ·left; exact ⟨h3,by rw [← k3]; exact h4⟩
     ·rcases k with ⟨k3,k4⟩ | ⟨k3,k4⟩
      ·left; exact ⟨by rw [h3]; exact k3,k4⟩
      ·right; exact ⟨h3.trans k3,List.lt_trans h4 k4⟩
theorem ltR_total (a b:Val):ltR a b∨ltR b a∨(a.time=b.time∧a.node=b.node∧a.dead=b.dead∧a.text=b.text):=by
 unfold ltR
 rcases Int.lt_trichotomy a.time b.time with h | h | h
 ·left; left; exact h
 ·rcases Int.lt_trichotomy a.node b.node with h2 | h2 | h2
  ·left; right; exact ⟨h,.inl h2⟩
  ·cases ha:a.dead <;> cases hb:b.dead
   ·rcases Classical.em (a.text<b.text) with h3 | h3
    ·left; right; exact ⟨h,.inr ⟨h2,.inr ⟨rfl,h3⟩⟩⟩
    ·rcases List.le_iff_lt_or_eq.1 (List.not_lt.1 h3) with h4 | h4
     ·right; left; right; exact ⟨h.symm,.inr ⟨h2.symm,.inr ⟨rfl,h4⟩⟩⟩
     ·right; right; exact ⟨h,h2,rfl,h4.symm⟩
   ·left; right; exact ⟨h,.inr ⟨h2,.inl ⟨rfl,rfl⟩⟩⟩
   ·right; left; right; exact ⟨h.symm,.inr ⟨h2.symm,.inl ⟨rfl,rfl⟩⟩⟩
   ·rcases Classical.em (a.text<b.text) with h3 | h3
    ·left; right; exact ⟨h,.inr ⟨h2,.inr ⟨rfl,h3⟩⟩⟩
    ·rcases List.le_iff_lt_or_eq.1 (List.not_lt.1 h3) with h4 | h4
     ·right; left; right; exact ⟨h.symm,.inr ⟨h2.symm,.inr ⟨rfl,h4⟩⟩⟩
     ·right; right; exact ⟨h,h2,rfl,h4.symm⟩
  ·right; left; right; exact ⟨h.symm,.inl h2⟩
 ·right; left; left; exact h
theorem ltR_irrefl (a:Val):¬ ltR a a:=fun h=>by
 have:=(behind_iff a a).2 h
 rw [behind_irrefl] at this; cases this
theorem ltR_asymm {a b:Val} (h:ltR a b):¬ ltR b a:=fun k=>ltR_irrefl a (ltR_trans h k)

/-! ### the join of two values of a kind -/
structure Ok2 (a b:Val):Prop where
 l:okV a=true
 r:okV b=true
 k:a.kind=b.kind
theorem Ok2.symm {a b:Val} (h:Ok2 a b):Ok2 b a:=⟨h.r,h.l,h.k.symm⟩
theorem kinds_of {a:Val} (h:okV a=true):a.kind=1∨a.kind=2∨a.kind=3:=by
 unfold okV at h
 by_cases h1:a.kind=1
 ·exact .inl h1
 ·by_cases h2:a.kind=2
  ·exact .inr (.inl h2)
  ·have e1:(a.kind==1)=false:=by simpa using h1
   have e2:(a.kind==2)=false:=by simpa using h2
   rw [e1,e2,cond_false,cond_false] at h
   simp only [Bool.and_eq_true,beq_iff_eq] at h
   exact .inr (.inr h.1)
theorem joinV_2 (a b:Val):((joinV a b).2=0)↔Ok2 a b:=by
 unfold joinV
 cases ha:okV a
 ·simp only [Bool.not_false,cond_true]; constructor
  ·intro h; cases h
  ·intro h; have:=h.l; rw [ha] at this; cases this
 ·cases hb:okV b
  ·simp only [Bool.not_true,Bool.not_false,cond_true,cond_false]; constructor
   ·intro h; cases h
   ·intro h; have:=h.r; rw [hb] at this; cases this
  ·cases hk:(a.kind != b.kind)
   ·have hk':a.kind=b.kind:=by simpa using hk
    simp only [Bool.not_true,cond_false]
    constructor
    ·intro _; exact ⟨ha,hb,hk'⟩
    ·intro _; cases (a.kind==1) <;> cases (a.kind==2) <;> rfl
   ·have hk':¬ a.kind=b.kind:=by simpa using hk
    simp only [Bool.not_true,cond_true,cond_false]
    constructor
    ·intro h; cases h
    ·intro h; exact absurd h.k hk'
abbrev J (a b:Val):Val:=(joinV a b).1
theorem J_1 {a b:Val} (h:Ok2 a b) (k:a.kind=1):J a b=bif behind b a then b else a:=by
 have e1:(a.kind != b.kind)=false:=by simpa using h.k
 have e2:(a.kind==1)=true:=by simpa using k
 unfold J joinV; rw [h.l,h.r,e1,e2]; rfl
theorem J_2 {a b:Val} (h:Ok2 a b) (k:a.kind=2):J a b=⟨a.kind,a.time,a.node,a.dead,a.text,mostL a.plus b.plus,mostL a.minus b.minus,0⟩:=by
 have e1:(a.kind != b.kind)=false:=by simpa using h.k
 have e2:(a.kind==1)=false:=by simp [k]
 have e3:(a.kind==2)=true:=by simpa using k
 unfold J joinV; rw [h.l,h.r,e1,e2,e3]; rfl
theorem J_3 {a b:Val} (h:Ok2 a b) (k:a.kind=3):J a b=⟨a.kind,a.time,a.node,a.dead,a.text,[],[],orF a.flags b.flags⟩:=by
 have e1:(a.kind != b.kind)=false:=by simpa using h.k
 have e2:(a.kind==1)=false:=by simp [k]
 have e3:(a.kind==2)=false:=by simp [k]
 unfold J joinV; rw [h.l,h.r,e1,e2,e3]; rfl
theorem ok1 {a:Val} (h:okV a=true) (k:a.kind=1):okR a=true:=by unfold okV at h; rw [k] at h; exact h
theorem ok2 {a:Val} (h:okV a=true) (k:a.kind=2):okC a=true:=by unfold okV at h; rw [k] at h; exact h
theorem ok3 {a:Val} (h:okV a=true) (k:a.kind=3):okF a=true:=by unfold okV at h; rw [k] at h; exact h
theorem noReg_eq {a:Val} (h:noReg a=true):a.time=0∧a.node=0∧a.dead=false∧a.text=[]:=by
 simp only [noReg,Bool.and_eq_true,beq_iff_eq,Bool.not_eq_true'] at h
 exact ⟨h.1,h.2.1,h.2.2.1,h.2.2.2⟩
theorem okR_eq {a:Val} (h:okR a=true):a.plus=[]∧a.minus=[]∧a.flags=0:=by
 simp only [okR,Bool.and_eq_true,beq_iff_eq] at h
 exact ⟨h.2.2.2.2.2.2.1.1,h.2.2.2.2.2.2.1.2,h.2.2.2.2.2.2.2⟩
theorem okC_eq {a:Val} (h:okC a=true):okN a.plus=true∧okN a.minus=true∧noReg a=true∧a.flags=0:=by
 simp only [okC,Bool.and_eq_true,beq_iff_eq] at h
 exact ⟨h.1,h.2.1,h.2.2.1,h.2.2.2⟩
theorem okF_eq {a:Val} (h:okF a=true):noReg a=true∧a.plus=[]∧a.minus=[]:=by
 simp only [okF,Bool.and_eq_true,beq_iff_eq] at h
 exact ⟨h.1,h.2.1,h.2.2⟩
theorem val_ext {a b:Val} (h1:a.kind=b.kind) (h2:a.time=b.time) (h3:a.node=b.node) (h4:a.dead=b.dead) (h5:a.text=b.text) (h6:a.plus=b.plus) (h7:a.minus=b.minus) (h8:a.flags=b.flags):a=b:=by
 cases a; cases b; simp_all
theorem okN_most {a b:List Int} (ha:okN a=true) (hb:okN b=true):okN (mostL a b)=true:=by
 simp only [okN,Bool.and_eq_true,List.all_eq_true,decide_eq_true_eq,beq_iff_eq] at *
 refine ⟨fun x hx=>?_,by rw [mostL_length]; omega⟩
 rcases mostL_mem hx with h | h
 ·exact ha.1 x h
 ·exact hb.1 x h
theorem J_kind {a b:Val} (h:Ok2 a b):(J a b).kind=a.kind:=by
 rcases kinds_of h.l with k | k | k
 ·rw [J_1 h k]; cases behind b a
  ·rfl
  ·exact h.k.symm
 ·rw [J_2 h k]
 ·rw [J_3 h k]
theorem J_ok {a b:Val} (h:Ok2 a b):okV (J a b)=true:=by
 rcases kinds_of h.l with k | k | k
 ·rw [J_1 h k]; cases behind b a
  ·exact h.l
  ·exact h.r
 ·have hb:b.kind=2:=by rw [← h.k]; exact k
  obtain ⟨a1,a2,a3,a4⟩:=okC_eq (ok2 h.l k)
  obtain ⟨b1,b2,b3,b4⟩:=okC_eq (ok2 h.r hb)
  obtain ⟨n1,n2,n3,n4⟩:=noReg_eq a3
  rw [J_2 h k]
  unfold okV
  rw [k]
  show okC _=true
  simp only [okC,okN_most a1 b1,okN_most a2 b2,noReg,n1,n2,n3,n4]
  rfl
 ·obtain ⟨a3,a1,a2⟩:=okF_eq (ok3 h.l k)
  obtain ⟨n1,n2,n3,n4⟩:=noReg_eq a3
  rw [J_3 h k]
  unfold okV
  rw [k]
  show okF _=true
  simp only [okF,noReg,n1,n2,n3,n4]
  rfl
theorem J_wf {a b:Val} (h:Ok2 a b) (ha:WfV a) (hb:WfV b):WfV (J a b):=by
 rcases kinds_of h.l with k | k | k
 ·rw [J_1 h k]; cases behind b a
  ·exact ha
  ·exact hb
 ·rw [J_2 h k]
  refine ⟨ha.kind,ha.time,ha.node,fun x hx=>?_,fun x hx=>?_,⟨Int.le_refl 0,by show (0:Int)<_; decide⟩⟩
  ·rcases mostL_mem hx with h | h
   ·exact ha.plus x h
   ·exact hb.plus x h
  ·rcases mostL_mem hx with h | h
   ·exact ha.minus x h
   ·exact hb.minus x h
 ·rw [J_3 h k]
  exact ⟨ha.kind,ha.time,ha.node,(fun x hx=>by cases hx),(fun x hx=>by cases hx),orF_in ha.flags hb.flags⟩
theorem Ok2.j {a b c:Val} (h:Ok2 a b) (k:Ok2 b c):Ok2 (J a b) c:=⟨J_ok h,k.r,(J_kind h).trans (h.k.trans k.k)⟩
theorem Ok2.j' {a b c:Val} (h:Ok2 a b) (k:Ok2 b c):Ok2 a (J b c):=⟨h.l,J_ok k,h.k.trans (J_kind k).symm⟩
theorem J_self {a:Val} (h:okV a=true) (w:WfV a):J a a=a:=by
 have hh:Ok2 a a:=⟨h,h,rfl⟩
 rcases kinds_of h with k | k | k
 ·rw [J_1 hh k,behind_irrefl]; rfl
 ·rw [J_2 hh k,mostL_self,mostL_self]
  exact val_ext rfl rfl rfl rfl rfl rfl rfl (okC_eq (ok2 h k)).2.2.2.symm
 ·rw [J_3 hh k,orF_self w.flags]
  obtain ⟨_,a1,a2⟩:=okF_eq (ok3 h k)
  exact val_ext rfl rfl rfl rfl rfl a1.symm a2.symm rfl
theorem reg_eq {a b:Val} (h:Ok2 a b) (k:a.kind=1) (e:a.time=b.time∧a.node=b.node∧a.dead=b.dead∧a.text=b.text):a=b:=by
 obtain ⟨a1,a2,a3⟩:=okR_eq (ok1 h.l k)
 obtain ⟨b1,b2,b3⟩:=okR_eq (ok1 h.r (by rw [← h.k]; exact k))
 exact val_ext h.k e.1 e.2.1 e.2.2.1 e.2.2.2 (a1.trans b1.symm) (a2.trans b2.symm) (a3.trans b3.symm)
theorem J_comm {a b:Val} (h:Ok2 a b) (wa:WfV a) (wb:WfV b):J a b=J b a:=by
 rcases kinds_of h.l with k | k | k
 ·have kb:b.kind=1:=by rw [← h.k]; exact k
  rw [J_1 h k,J_1 h.symm kb]
  rcases ltR_total a b with e | e | e
  ·have h2:behind a b=false:=by cases hc:behind a b with
    | false=>rfl
    | true=>exact absurd ((behind_iff b a).1 hc) (ltR_asymm e)
   rw [(behind_iff a b).2 e,h2]; rfl
  ·have h2:behind b a=false:=by cases hc:behind b a with
    | false=>rfl
    | true=>exact absurd ((behind_iff a b).1 hc) (ltR_asymm e)
   rw [(behind_iff b a).2 e,h2]; rfl
  ·have:=reg_eq h k e
   subst this; rfl
 ·have kb:b.kind=2:=by rw [← h.k]; exact k
  obtain ⟨_,_,a3,_⟩:=okC_eq (ok2 h.l k)
  obtain ⟨_,_,b3,_⟩:=okC_eq (ok2 h.r kb)
  obtain ⟨n1,n2,n3,n4⟩:=noReg_eq a3
  obtain ⟨m1,m2,m3,m4⟩:=noReg_eq b3
  rw [J_2 h k,J_2 h.symm kb,mostL_comm a.plus,mostL_comm a.minus,n1,n2,n3,n4,m1,m2,m3,m4,h.k]
 ·have kb:b.kind=3:=by rw [← h.k]; exact k
  obtain ⟨a3,_,_⟩:=okF_eq (ok3 h.l k)
  obtain ⟨b3,_,_⟩:=okF_eq (ok3 h.r kb)
  obtain ⟨n1,n2,n3,n4⟩:=noReg_eq a3
  obtain ⟨m1,m2,m3,m4⟩:=noReg_eq b3
  rw [J_3 h k,J_3 h.symm kb,orF_comm wa.flags wb.flags,n1,n2,n3,n4,m1,m2,m3,m4,h.k]
theorem J_assoc {a b c:Val} (h:Ok2 a b) (hc:Ok2 b c) (wa:WfV a) (wb:WfV b) (wc:WfV c):J (J a b) c=J a (J b c):=by
 rcases kinds_of h.l with k | k | k
 ·have kb:b.kind=1:=by rw [← h.k]; exact k
  rw [J_1 (h.j hc) ((J_kind h).trans k),J_1 (h.j' hc) k,J_1 h k,J_1 hc kb]
  cases hab:behind b a with
  | true =>
   simp only [cond_true]
   cases hbc:behind c b with
   | true =>
    simp only [cond_true]
    have:=(behind_iff a c).2 (ltR_trans ((behind_iff a b).1 hab) ((behind_iff b c).1 hbc))
    rw [this]; rfl
   | false=>simp only [cond_false]; rw [hab]; rfl
  | false =>
   simp only [cond_false]
   cases hbc:behind c b with
   | true=>simp only [cond_true]
   | false =>
    simp only [cond_false,hab]
    cases hac:behind c a with
    | false=>rfl
    | true =>
     exfalso
     have e1:ltR a c:=(behind_iff a c).1 hac
     have n1:¬ ltR a b:=fun e=>by rw [(behind_iff a b).2 e] at hab; cases hab
     have n2:¬ ltR b c:=fun e=>by rw [(behind_iff b c).2 e] at hbc; cases hbc
     rcases ltR_total a b with e | e | e
     ·exact n1 e
     ·exact n2 (ltR_trans e e1)
     ·have:=reg_eq h k e
      subst this; exact n2 e1
 ·have kb:b.kind=2:=by rw [← h.k]; exact k
  rw [J_2 (h.j hc) ((J_kind h).trans k),J_2 (h.j' hc) k,J_2 h k,J_2 hc kb]
  simp only [mostL_assoc]
 ·have kb:b.kind=3:=by rw [← h.k]; exact k
  rw [J_3 (h.j hc) ((J_kind h).trans k),J_3 (h.j' hc) k,J_3 h k,J_3 hc kb]
  simp only [orF_assoc wa.flags wb.flags wc.flags]

/-! ### below -/
theorem belowV_iff (a b:Val):belowV a b=true↔Ok2 a b∧J a b=b:=by
 unfold belowV
 rw [Bool.and_eq_true,beq_iff_eq,joinV_2,sameV_iff]
theorem below_refl {a:Val} (h:okV a=true) (w:WfV a):belowV a a=true:=(belowV_iff a a).2 ⟨⟨h,h,rfl⟩,J_self h w⟩
theorem below_trans {a b c:Val} (wa:WfV a) (wb:WfV b) (wc:WfV c) (h:belowV a b=true) (k:belowV b c=true):belowV a c=true:=by
 obtain ⟨h1,h2⟩:=(belowV_iff a b).1 h
 obtain ⟨k1,k2⟩:=(belowV_iff b c).1 k
 refine (belowV_iff a c).2 ⟨⟨h1.l,k1.r,h1.k.trans k1.k⟩,?_⟩
 have:=J_assoc h1 k1 wa wb wc
 rw [h2,k2] at this
 exact this.symm
theorem below_anti {a b:Val} (wa:WfV a) (wb:WfV b) (h:belowV a b=true) (k:belowV b a=true):a=b:=by
 obtain ⟨h1,h2⟩:=(belowV_iff a b).1 h
 obtain ⟨k1,k2⟩:=(belowV_iff b a).1 k
 rw [J_comm h1 wa wb] at h2
 exact k2.symm.trans h2
theorem below_l {a b:Val} (h:Ok2 a b) (wa:WfV a) (wb:WfV b):belowV a (J a b)=true:=by
 have haa:Ok2 a a:=⟨h.l,h.l,rfl⟩
 refine (belowV_iff _ _).2 ⟨haa.j' h,?_⟩
 have:=J_assoc haa h wa wa wb
 rw [J_self h.l wa] at this
 exact this.symm
theorem below_r {a b:Val} (h:Ok2 a b) (wa:WfV a) (wb:WfV b):belowV b (J a b)=true:=by
 rw [J_comm h wa wb]; exact below_l h.symm wb wa
theorem below_lub {a b c:Val} (h:Ok2 a b) (wa:WfV a) (wb:WfV b) (wc:WfV c):belowV (J a b) c=(belowV a c&&belowV b c):=by
 rw [Bool.eq_iff_iff,Bool.and_eq_true]
 constructor
 ·intro k
  exact ⟨below_trans wa (J_wf h wa wb) wc (below_l h wa wb) k,below_trans wb (J_wf h wa wb) wc (below_r h wa wb) k⟩
 ·rintro ⟨k1,k2⟩
  obtain ⟨a1,a2⟩:=(belowV_iff a c).1 k1
  obtain ⟨b1,b2⟩:=(belowV_iff b c).1 k2
  refine (belowV_iff _ _).2 ⟨h.j b1,?_⟩
  rw [J_assoc h b1 wa wb wc,b2,a2]
end Go.Proofs.YthbfhgenkhkpfaaGreat