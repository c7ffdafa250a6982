/- Join and Below of value: what each comes to. -/
import Derived.Test.YtdojgmmpcdbeoaaGa2
namespace Go.Proofs.Ytdojgmmpcdbeoaa
open Go Go.RowKit
set_option linter.unusedVariables false
set_option linter.unusedSimpArgs false
def value_Join_raw (d0:Val) (d1:Val) (y:Val × Int):Prop :=
 ∃ x27,value_Check_raw d0 x27∧(((x27 != (0:Int))=true→(y=((⟨(0:Int),(0:Int),(0:Int),false,([]:Str),([]:List Int),([]:List Int),(0:Int)⟩:Val),(2:Int))))∧((x27 != (0:Int))=false→(∃ x39,value_Check_raw d1 x39∧(((x39 != (0:Int))=true→(y=((⟨(0:Int),(0:Int),(0:Int),false,([]:Str),([]:List Int),([]:List Int),(0:Int)⟩:Val),(2:Int))))∧((x39 != (0:Int))=false→(((d0.kind != d1.kind)=true→(y=((⟨(0:Int),(0:Int),(0:Int),false,([]:Str),([]:List Int),([]:List Int),(0:Int)⟩:Val),(3:Int))))∧((d0.kind != d1.kind)=false→(((d0.kind==1)=true→(∃ x102,cmp_Compare_int_raw d0.time d1.time x102∧(∃ x103,cmp_Compare_int_raw d0.node d1.node x103∧(∃ x104,value_bit_raw d0.dead x104∧(∃ x105,value_bit_raw d1.dead x105∧(∃ x106,cmp_Compare_string_raw d0.text d1.text x106∧(∃ x107,value_first_raw ([x102,x103,(IntKind.i64.wrap (x104 - x105)),x106]:List Int) x107∧(((decide (x107<0))=true→(∃ x284,slices_Clone_int_raw d1.plus x284∧(∃ x288,slices_Clone_int_raw d1.minus x288∧(y=((⟨d1.kind,d1.time,d1.node,d1.dead,d1.text,x284,x288,d1.flags⟩:Val),(0:Int))))))∧((decide (x107<0))=false→(∃ x411,slices_Clone_int_raw d0.plus x411∧(∃ x415,slices_Clone_int_raw d0.minus x415∧(y=((⟨d0.kind,d0.time,d0.node,d0.dead,d0.text,x411,x415,d0.flags⟩:Val),(0:Int))))))))))))))∧((d0.kind==1)=false→(((d0.kind==2)=true→(∃ x544,value_counter_join_1_raw d0.plus d1.plus x544∧(∃ x548,value_counter_join_1_raw d0.minus d1.minus x548∧(∃ x675,slices_Clone_int_raw x544 x675∧(∃ x679,slices_Clone_int_raw x548 x679∧(y=((⟨d0.kind,d0.time,d0.node,d0.dead,d0.text,x675,x679,d0.flags⟩:Val),(0:Int))))))))∧((d0.kind==2)=false→(((d0.kind==3)=true→(∃ x862,slices_Clone_int_raw d0.plus x862∧(∃ x866,slices_Clone_int_raw d0.minus x866∧(y=((⟨d0.kind,d0.time,d0.node,d0.dead,d0.text,x862,x866,(IntKind.u64.wrap ((BitVec.ofInt IntKind.u64.bits d0.flags ||| BitVec.ofInt IntKind.u64.bits d1.flags).toNat:Int))⟩:Val),(0:Int))))))∧((d0.kind==3)=false→False)))))))))))))
set_option maxRecDepth 20000 in
set_option maxHeartbeats 4000000 in
theorem value_Join_c {L:List Nat} {w:World} {csP0:List Value} (d0:Val) (HP0:Stb L w (fun w=>kVal.r w csP0 d0)) {csP1:List Value} (d1:Val) (HP1:Stb L w (fun w=>kVal.r w csP1 d1)) (hL:Lt L w) {y:Val × Int} (h:value_Join_raw d0 d1 y) :
  Calls Try.prog 13 [.agg csP0.toArray,.agg csP1.toArray].toArray w (Ret fun v w'=>Ext w w'∧∃ (cs90:List Value),v=.tuple #[.agg cs90.toArray,.int .i64 y.2]∧Stb L w' (fun w=>kVal.r w cs90 y.1)):=by
 obtain ⟨A1,c2,A4,c5,rfl,H3,H6⟩:=kVal_open HP0
 obtain ⟨A7,c8,A10,c11,rfl,H9,H12⟩:=kVal_open HP1
 unfold value_Join_raw at h
 refine calls_ec Try.func13 rfl rfl rfl ?_
 refine ec_sr ?_
 refine o_box (cs:=(cVal d0 A1 c2 A4 c5)) rfl rfl rfl ?_
 intro b13 w13 e13 F13 B13
 have S13:=B13.stb (nin hL e13)
 have G14:Fr L w w13:=Fr.ext F13
 refine o_box (cs:=(cVal d1 A7 c8 A10 c11)) rfl rfl rfl ?_
 intro b15 w15 e15 F15 B15
 have S15:=B15.stb (nin (hL.fr F13) e15)
 have E16:=F13.trans F15
 have G18:Fr L w13 w15:=Fr.ext F15
 refine o_alloc zero_api_Value rfl rfl rfl ?_
 intro b19 w19 e19 F19 B19
 have n19:w.heap.size≤b19:=by rw [e19]; exact E16.size
 have m20:w.heap.size≤b19:=by rw [e19]; exact (G14.trans (Fr.ext F15)).size
 have E23:=E16.trans F19
 have G26:Fr L w15 w19:=Fr.ext F19
 refine o_w (v:=.int .i64 0) (r_asg rfl) ?_
 refine eo_nil_sq ?_
 refine ec_seq ?_
 refine ec_block ?_
 refine ec_seq ?_
 refine ec_sr ?_
 refine o_w (v:=.agg (cVal d0 A1 c2 A4 c5).toArray) (r_lda agg_api_Value rfl (vs:=(cVal d0 A1 c2 A4 c5)) rfl ((S13.fr (G18.trans (Fr.ext F19)) sI).now.part (n:=8) rfl)) ?_
 obtain ⟨x27,hx27,h⟩:=h
 refine o_call cf_value_Check rfl (value_Check_c d0 (kVal_mk (d:=d0) (H3.up ((G14.trans (Fr.ext F15)).trans (Fr.ext F19)) sI (upc (.inr m20) (fun _ h=>.inl h))) (H6.up ((G14.trans (Fr.ext F15)).trans (Fr.ext F19)) sI (upc (.inr m20) (fun _ h=>.inl h)))) ((hL.fr E23).cons B19.lt) hx27) rfl rfl ?_
 rintro _ w27 ⟨F27,rfl⟩
 have E28:=E23.trans F27
 refine o_w (v:=.bool (x27 != (0:Int))) (r_int rfl rfl rfl) ?_
 refine o_w (v:=.bool (x27 != (0:Int))) (r_asg rfl) ?_
 refine eo_nil_sq ?_
 refine ec_cond rfl (fun hc33=>?_) (fun hc33=>?_)
 ·replace h:=h.1 hc33
  refine ec_skip ?_
  refine sq_n ?_
  refine ec_condT rfl hc33 ?_
  refine ec_sr ?_
  refine o_w (v:=.agg #[.int .i64 0,.int .i64 0,.int .i64 0,.bool false,str [],.slice none ([]:List Int).length 0,.slice none ([]:List Int).length 0,.int .u64 0]) (r_build bld_api_Value (vs:=[]) (cells:=[.int .i64 0,.int .i64 0,.int .i64 0,.bool false,str [],.slice none ([]:List Int).length 0,.slice none ([]:List Int).length 0,.int .u64 0]) rfl rfl) ?_
  refine o_store rfl (B19.ex F27) (vs:=[.int .i64 0,.int .i64 0,.int .i64 0,.bool false,str [],.slice none ([]:List Int).length 0,.slice none ([]:List Int).length 0,.int .u64 0]) rfl sz_api_Value rfl rfl rfl ?_
  intro w34 F34 B34
  have E35:=Ext.st E28 F34 (by simp; omega)
  have B34':Blk w34 b19 _ [.int .i64 0,.int .i64 0,.int .i64 0,.bool false,str [],.slice none ([]:List Int).length 0,.slice none ([]:List Int).length 0,.int .u64 0]:=B34
  refine o_w (v:=.int .i64 2) (r_asg rfl) ?_
  refine eo_nil_sq ?_
  refine ec_ret ?_
  refine blk_ret ?_
  refine sq_ret ?_
  subst h
  exact (endr2 (rv_a rfl (agg_api_Value) B34' (vs:=[.int .i64 0,.int .i64 0,.int .i64 0,.bool false,str [],.slice none ([]:List Int).length 0,.slice none ([]:List Int).length 0,.int .u64 0]) rfl rfl) (rv_t rfl) ⟨_,rfl,E35,_,rfl,(kVal_mk (d:=(⟨(0:Int),(0:Int),(0:Int),false,([]:Str),([]:List Int),([]:List Int),(0:Int)⟩:Val)) stb_nil stb_nil)⟩)
 ·replace h:=h.2 hc33
  refine ec_region ?_
  refine o_w (v:=.agg (cVal d1 A7 c8 A10 c11).toArray) (r_lda agg_api_Value rfl (vs:=(cVal d1 A7 c8 A10 c11)) rfl ((S15.fr (G26.trans (Fr.ext F27)) sI).now.part (n:=8) rfl)) ?_
  obtain ⟨x39,hx39,h⟩:=h
  refine o_call cf_value_Check rfl (value_Check_c d1 (kVal_mk (d:=d1) (H9.up (((G14.trans (Fr.ext F15)).trans (Fr.ext F19)).trans (Fr.ext F27)) sI (upc (.inr m20) (fun _ h=>.inl h))) (H12.up (((G14.trans (Fr.ext F15)).trans (Fr.ext F19)).trans (Fr.ext F27)) sI (upc (.inr m20) (fun _ h=>.inl h)))) ((hL.fr E28).cons (B19.ex F27).lt) hx39) rfl rfl ?_
  rintro _ w39 ⟨F39,rfl⟩
  have E40:=E28.trans F39
  have G41:=(((G14.trans (Fr.ext F15)).trans (Fr.ext F19)).trans (Fr.ext F27)).trans (Fr.ext F39)
  refine o_w (v:=.bool (x39 != (0:Int))) (r_int rfl rfl rfl) ?_
  refine o_w (v:=.bool (x39 != (0:Int))) (r_asg rfl) ?_
  refine eo_nil_sq ?_
  refine ec_cond rfl (fun hc45=>?_) (fun hc45=>?_)
  ·replace h:=h.1 hc45
   refine ec_sr ?_
   refine o_w (v:=.agg #[.int .i64 0,.int .i64 0,.int .i64 0,.bool false,str [],.slice none ([]:List Int).length 0,.slice none ([]:List Int).length 0,.int .u64 0]) (r_build bld_api_Value (vs:=[]) (cells:=[.int .i64 0,.int .i64 0,.int .i64 0,.bool false,str [],.slice none ([]:List Int).length 0,.slice none ([]:List Int).length 0,.int .u64 0]) rfl rfl) ?_
   refine o_store rfl ((B19.ex F27).ex F39) (vs:=[.int .i64 0,.int .i64 0,.int .i64 0,.bool false,str [],.slice none ([]:List Int).length 0,.slice none ([]:List Int).length 0,.int .u64 0]) rfl sz_api_Value rfl rfl rfl ?_
   intro w46 F46 B46
   have E47:=Ext.st E40 F46 (by simp; omega)
   have B46':Blk w46 b19 _ [.int .i64 0,.int .i64 0,.int .i64 0,.bool false,str [],.slice none ([]:List Int).length 0,.slice none ([]:List Int).length 0,.int .u64 0]:=B46
   refine o_w (v:=.int .i64 2) (r_asg rfl) ?_
   refine eo_nil_sq ?_
   refine ec_ret ?_
   refine blk_ret ?_
   refine sq_ret ?_
   subst h
   exact (endr2 (rv_a rfl (agg_api_Value) B46' (vs:=[.int .i64 0,.int .i64 0,.int .i64 0,.bool false,str [],.slice none ([]:List Int).length 0,.slice none ([]:List Int).length 0,.int .u64 0]) rfl rfl) (rv_t rfl) ⟨_,rfl,E47,_,rfl,(kVal_mk (d:=(⟨(0:Int),(0:Int),(0:Int),false,([]:Str),([]:List Int),([]:List Int),(0:Int)⟩:Val)) stb_nil stb_nil)⟩)
  ·replace h:=h.2 hc45
   refine ec_sr ?_
   refine o_w (v:=.pointer (some ⟨b13,0,none⟩)) (r_fa fld_api_Value_0 rfl rfl) ?_
   refine o_w (v:=.int .i64 d0.kind) (r_ld one_int rfl ((S13.fr (((G18.trans (Fr.ext F19)).trans (Fr.ext F27)).trans (Fr.ext F39)) sI).now.cell rfl)) ?_
   refine o_w (v:=.pointer (some ⟨b15,0,none⟩)) (r_fa fld_api_Value_0 rfl rfl) ?_
   refine o_w (v:=.int .i64 d1.kind) (r_ld one_int rfl ((S15.fr ((G26.trans (Fr.ext F27)).trans (Fr.ext F39)) sI).now.cell rfl)) ?_
   refine o_w (v:=.bool (d0.kind != d1.kind)) (r_int rfl rfl rfl) ?_
   refine o_w (v:=.bool (d0.kind != d1.kind)) (r_asg rfl) ?_
   refine eo_nil_sq ?_
   refine ec_cond rfl (fun hc51=>?_) (fun hc51=>?_)
   ·replace h:=h.1 hc51
    refine ec_sr ?_
    refine o_w (v:=.agg #[.int .i64 0,.int .i64 0,.int .i64 0,.bool false,str [],.slice none ([]:List Int).length 0,.slice none ([]:List Int).length 0,.int .u64 0]) (r_build bld_api_Value (vs:=[]) (cells:=[.int .i64 0,.int .i64 0,.int .i64 0,.bool false,str [],.slice none ([]:List Int).length 0,.slice none ([]:List Int).length 0,.int .u64 0]) rfl rfl) ?_
    refine o_store rfl ((B19.ex F27).ex F39) (vs:=[.int .i64 0,.int .i64 0,.int .i64 0,.bool false,str [],.slice none ([]:List Int).length 0,.slice none ([]:List Int).length 0,.int .u64 0]) rfl sz_api_Value rfl rfl rfl ?_
    intro w52 F52 B52
    have E53:=Ext.st E40 F52 (by simp; omega)
    have B52':Blk w52 b19 _ [.int .i64 0,.int .i64 0,.int .i64 0,.bool false,str [],.slice none ([]:List Int).length 0,.slice none ([]:List Int).length 0,.int .u64 0]:=B52
    refine o_w (v:=.int .i64 3) (r_asg rfl) ?_
    refine eo_nil_sq ?_
    refine ec_ret ?_
    refine blk_ret ?_
    refine sq_ret ?_
    subst h
    exact (endr2 (rv_a rfl (agg_api_Value) B52' (vs:=[.int .i64 0,.int .i64 0,.int .i64 0,.bool false,str [],.slice none ([]:List Int).length 0,.slice none ([]:List Int).length 0,.int .u64 0]) rfl rfl) (rv_t rfl) ⟨_,rfl,E53,_,rfl,(kVal_mk (d:=(⟨(0:Int),(0:Int),(0:Int),false,([]:Str),([]:List Int),([]:List Int),(0:Int)⟩:Val)) stb_nil stb_nil)⟩)
   ·replace h:=h.2 hc51
    refine ec_skip ?_
    refine blk_n ?_
    refine sq_n ?_
    refine ec_sr ?_
    refine o_w (v:=.pointer (some ⟨b13,0,none⟩)) (r_fa fld_api_Value_0 rfl rfl) ?_
    refine o_w (v:=.int .i64 d0.kind) (r_ld one_int rfl ((S13.fr (((G18.trans (Fr.ext F19)).trans (Fr.ext F27)).trans (Fr.ext F39)) sI).now.cell rfl)) ?_
    refine o_inl (vs:=[.int .i64 d0.kind]) (caps:=[]) cf_value_kinds rfl rfl rfl rfl ?_
    refine calls_ec Try.func27 rfl rfl rfl ?_
    refine ec_sr ?_
    refine o_w (v:=.nilIface) (r_asg rfl) ?_
    refine o_w (v:=.bool false) (r_asg rfl) ?_
    refine eo_nil_sq ?_
    refine ec_seq ?_
    refine ec_sr ?_
    refine o_w (v:=.int .i64 d0.kind) (r_mov rfl) ?_
    refine eo_nil_sq ?_
    refine ec_block ?_
    refine ec_sr ?_
    refine o_w (v:=.bool (d0.kind==1)) (r_int rfl rfl rfl) ?_
    refine o_w (v:=.bool (d0.kind==1)) (r_asg rfl) ?_
    refine eo_nil_sq ?_
    refine ec_cond rfl (fun hc57=>?_) (fun hc57=>?_)
    ·replace h:=h.1 hc57
     refine ec_sr ?_
     refine o_w (v:=.agg #[]) (r_build bld_value_register (vs:=[]) (cells:=[]) rfl rfl) ?_
     refine o_w (v:=.iface 53 (.agg #[])) (r_mkif conc_value_register rfl) ?_
     refine o_w (v:=.iface 53 (.agg #[])) (r_asg rfl) ?_
     refine o_w (v:=.bool true) (r_asg rfl) ?_
     refine eo_nil_sq ?_
     refine ec_ret ?_
     refine blk_ret ?_
     refine sq_ret ?_
     refine end2 (v:=.iface 53 (.agg #[])) (x:=.bool true) rfl rfl ⟨_,rfl,?_⟩
     refine o_w (v:=.tuple #[.iface 53 (.agg #[]),.bool true]) (r_mov rfl) ?_
     refine o_w (v:=.iface 53 (.agg #[])) (r_ext rfl rfl) ?_
     refine o_w (v:=.bool true) (r_ext rfl rfl) ?_
     refine o_w (v:=.iface 53 (.agg #[])) (r_asg rfl) ?_
     refine o_w (v:=.bool true) (r_asg rfl) ?_
     refine eo_r ?_
     refine o_w (v:=.iface 53 (.agg #[])) (r_mov rfl) ?_
     refine o_w (v:=.agg (cVal d0 A1 c2 A4 c5).toArray) (r_lda agg_api_Value rfl (vs:=(cVal d0 A1 c2 A4 c5)) rfl ((S13.fr (((G18.trans (Fr.ext F19)).trans (Fr.ext F27)).trans (Fr.ext F39)) sI).now.part (n:=8) rfl)) ?_
     refine o_w (v:=.agg (cVal d1 A7 c8 A10 c11).toArray) (r_lda agg_api_Value rfl (vs:=(cVal d1 A7 c8 A10 c11)) rfl ((S15.fr ((G26.trans (Fr.ext F27)).trans (Fr.ext F39)) sI).now.part (n:=8) rfl)) ?_
     refine o_inlI (vs:=[.agg (cVal d0 A1 c2 A4 c5).toArray,.agg (cVal d1 A7 c8 A10 c11).toArray]) mf_value_register_ouroboros_value_join rfl rfl rfl rfl ?_
     refine calls_ec Try.func50 rfl rfl rfl ?_
     refine ec_sr ?_
     refine o_box (cs:=[]) rfl rfl rfl ?_
     intro b58 w58 e58 F58 B58
     have E59:=E40.trans F58
     refine o_box (cs:=(cVal d0 A1 c2 A4 c5)) rfl rfl rfl ?_
     intro b64 w64 e64 F64 B64
     have S64:=B64.stb (nin ((hL.fr E59).cons (((B19.ex F27).ex F39).ex F58).lt) e64)
     have E65:=E59.trans F64
     refine o_box (cs:=(cVal d1 A7 c8 A10 c11)) rfl rfl rfl ?_
     intro b71 w71 e71 F71 B71
     have S71:=B71.stb (nin ((hL.fr E65).cons ((((B19.ex F27).ex F39).ex F58).ex F64).lt) e71)
     have E72:=E65.trans F71
     have G77:Fr (b19::L) w64 w71:=Fr.ext F71
     refine o_alloc zero_api_Value rfl rfl rfl ?_
     intro b79 w79 e79 F79 B79
     have n79:w.heap.size≤b79:=by rw [e79]; exact E72.size
     have q80:b19<b79:=by rw [e79]; exact (((((B19.ex F27).ex F39).ex F58).ex F64).ex F71).lt
     have m81:w.heap.size≤b79:=by rw [e79]; exact (((G41.trans (Fr.ext F58)).trans (Fr.ext F64)).trans (Fr.ext F71)).size
     have E87:=E72.trans F79
     have G88:=(((G41.trans (Fr.ext F58)).trans (Fr.ext F64)).trans (Fr.ext F71)).trans (Fr.ext F79)
     have G93:Fr (b19::L) w71 w79:=Fr.ext F79
     refine eo_nil_sq ?_
     iterate 2 refine ec_seq ?_
     obtain ⟨x102,hx102,h⟩:=h
     obtain ⟨x103,hx103,h⟩:=h
     obtain ⟨x104,hx104,h⟩:=h
     obtain ⟨x105,hx105,h⟩:=h
     obtain ⟨x106,hx106,h⟩:=h
     obtain ⟨x107,hx107,h⟩:=h
     have hLd101:=(((hL.fr E87).cons ((((((B19.ex F27).ex F39).ex F58).ex F64).ex F71).ex F79).lt).cons B79.lt)
     refine ec_any0 (by kernel_rfl) [[],[0],[],[2],[0,1,2,3],[],[5],[],[7],[0,1,2,3,4,5,6,7,8],[],[10],[0,1,2,3,4,5,6,7,8,9,10,11],[],[13],[0,1,2,3,4,5,6,7,8,9,10,11,12,13,14],[0,1,2,3,4,5,6,7,8,9,10,11,12,13,14,15],[],[17],[],[19],[0,1,2,3,4,5,6,7,8,9,10,11,12,13,14,15,17,18,19,20],[0,1,2,3,4,5,6,7,8,9,10,11,12,13,14,15,16,17,18,19,20,21],[0,1,2,3,4,5,6,7,8,9,10,11,12,13,14,15,16,17,18,19,20,21,22],[0,1,2,3,4,5,6,7,8,9,10,11,12,13,14,15,16,17,18,19,20,21,22,23]] [7,8,9,10,11,12,13,14,15,16,17,18,19,20,21,22,23,24,25,26,27,28,29,30,31] [fun v _=>v=(.pointer (some ⟨b64,1,none⟩):Value),fun v _=>v=(.int .i64 d0.time:Value),fun v _=>v=(.pointer (some ⟨b71,1,none⟩):Value),fun v _=>v=(.int .i64 d1.time:Value),fun v _=>v=(.int .i64 x102:Value),fun v _=>v=(.pointer (some ⟨b64,2,none⟩):Value),fun v _=>v=(.int .i64 d0.node:Value),fun v _=>v=(.pointer (some ⟨b71,2,none⟩):Value),fun v _=>v=(.int .i64 d1.node:Value),fun v _=>v=(.int .i64 x103:Value),fun v _=>v=(.pointer (some ⟨b64,3,none⟩):Value),fun v _=>v=(.bool d0.dead:Value),fun v _=>v=(.int .i64 x104:Value),fun v _=>v=(.pointer (some ⟨b71,3,none⟩):Value),fun v _=>v=(.bool d1.dead:Value),fun v _=>v=(.int .i64 x105:Value),fun v _=>v=(.int .i64 (IntKind.i64.wrap (x104 - x105)):Value),fun v _=>v=(.pointer (some ⟨b64,4,none⟩):Value),fun v _=>v=(str d0.text:Value),fun v _=>v=(.pointer (some ⟨b71,4,none⟩):Value),fun v _=>v=(str d1.text:Value),fun v _=>v=(.int .i64 x106:Value),fun v w'=>∃ b101_22,v=(.slice (some ⟨b101_22,0,none⟩) 4 4:Value)∧Blk w' b101_22 3 [.int .i64 x102,.int .i64 x103,.int .i64 (IntKind.i64.wrap (x104 - x105)),.int .i64 x106]∧w79.heap.size≤b101_22,fun v _=>v=(.int .i64 x107:Value),fun v _=>v=(.bool (decide (x107<0)):Value)] (by kernel_rfl) ⟨fun _ _ _ _ _ h=>h,fun _ _ _ _ _ h=>h,fun _ _ _ _ _ h=>h,fun _ _ _ _ _ h=>h,fun _ _ _ _ _ h=>h,fun _ _ _ _ _ h=>h,fun _ _ _ _ _ h=>h,fun _ _ _ _ _ h=>h,fun _ _ _ _ _ h=>h,fun _ _ _ _ _ h=>h,fun _ _ _ _ _ h=>h,fun _ _ _ _ _ h=>h,fun _ _ _ _ _ h=>h,fun _ _ _ _ _ h=>h,fun _ _ _ _ _ h=>h,fun _ _ _ _ _ h=>h,fun _ _ _ _ _ h=>h,fun _ _ _ _ _ h=>h,fun _ _ _ _ _ h=>h,fun _ _ _ _ _ h=>h,fun _ _ _ _ _ h=>h,fun _ _ _ _ _ h=>h,fun _ v w' w'' F h=>by obtain ⟨b101_22,hv,B101_22,qB101_22⟩:=h; exact ⟨b101_22,hv,(B101_22.ex F),qB101_22⟩,fun _ _ _ _ _ h=>h,fun _ _ _ _ _ h=>h,trivial⟩ ?_ ?_
     ·refine ⟨?_,?_,?_,?_,?_,?_,?_,?_,?_,?_,?_,?_,?_,?_,?_,?_,?_,?_,?_,?_,?_,?_,?_,?_,?_,trivial⟩
      ·intro ρ w101o F101o hS hρ
       have q4:ρ 4=.pointer (some ⟨b64,0,none⟩):=hρ 4 (by kernel_rfl)
       exact o_q (r_fa fld_api_Value_1 rfl q4) ⟨Fr.refl _ _,rfl⟩
      ·intro ρ w101o F101o hS hρ
       have q7:ρ 7=.pointer (some ⟨b64,1,none⟩):=hS 0 (by decide) 7 rfl
       exact o_q (r_ld one_int q7 ((S64.fr ((G77.trans (Fr.ext F79)).trans (Fr.ext F101o)) sI).now.cell rfl)) ⟨Fr.refl _ _,rfl⟩
      ·intro ρ w101o F101o hS hρ
       have q5:ρ 5=.pointer (some ⟨b71,0,none⟩):=hρ 5 (by kernel_rfl)
       exact o_q (r_fa fld_api_Value_1 rfl q5) ⟨Fr.refl _ _,rfl⟩
      ·intro ρ w101o F101o hS hρ
       have q9:ρ 9=.pointer (some ⟨b71,1,none⟩):=hS 2 (by decide) 9 rfl
       exact o_q (r_ld one_int q9 ((S71.fr (G93.trans (Fr.ext F101o)) sI).now.cell rfl)) ⟨Fr.refl _ _,rfl⟩
      ·intro ρ w101o F101o hS hρ
       have E126:=E87.trans F101o
       have q8:ρ 8=.int .i64 d0.time:=hS 1 (by decide) 8 rfl
       have q10:ρ 10=.int .i64 d1.time:=hS 3 (by decide) 10 rfl
       refine o_call cf_cmp_Compare_int (by simp only [List.map,ev,q8,q10] <;> rfl) (cmp_Compare_int_c d0.time d1.time (((hL.fr E126).cons (((((((B19.ex F27).ex F39).ex F58).ex F64).ex F71).ex F79).ex F101o).lt).cons (B79.ex F101o).lt) hx102) rfl rfl ?_
       rintro _ w' ⟨F,rfl⟩
       exact eo_nil ⟨rfl,rfl,_,rfl,F,rfl⟩
      ·intro ρ w101o F101o hS hρ
       have q4:ρ 4=.pointer (some ⟨b64,0,none⟩):=hρ 4 (by kernel_rfl)
       exact o_q (r_fa fld_api_Value_2 rfl q4) ⟨Fr.refl _ _,rfl⟩
      ·intro ρ w101o F101o hS hρ
       have q12:ρ 12=.pointer (some ⟨b64,2,none⟩):=hS 5 (by decide) 12 rfl
       exact o_q (r_ld one_int q12 ((S64.fr ((G77.trans (Fr.ext F79)).trans (Fr.ext F101o)) sI).now.cell rfl)) ⟨Fr.refl _ _,rfl⟩
      ·intro ρ w101o F101o hS hρ
       have q5:ρ 5=.pointer (some ⟨b71,0,none⟩):=hρ 5 (by kernel_rfl)
       exact o_q (r_fa fld_api_Value_2 rfl q5) ⟨Fr.refl _ _,rfl⟩
      ·intro ρ w101o F101o hS hρ
       have q14:ρ 14=.pointer (some ⟨b71,2,none⟩):=hS 7 (by decide) 14 rfl
       exact o_q (r_ld one_int q14 ((S71.fr (G93.trans (Fr.ext F101o)) sI).now.cell rfl)) ⟨Fr.refl _ _,rfl⟩
      ·intro ρ w101o F101o hS hρ
       have E153:=E87.trans F101o
       have q13:ρ 13=.int .i64 d0.node:=hS 6 (by decide) 13 rfl
       have q15:ρ 15=.int .i64 d1.node:=hS 8 (by decide) 15 rfl
       refine o_call cf_cmp_Compare_int (by simp only [List.map,ev,q13,q15] <;> rfl) (cmp_Compare_int_c d0.node d1.node (((hL.fr E153).cons (((((((B19.ex F27).ex F39).ex F58).ex F64).ex F71).ex F79).ex F101o).lt).cons (B79.ex F101o).lt) hx103) rfl rfl ?_
       rintro _ w' ⟨F,rfl⟩
       exact eo_nil ⟨rfl,rfl,_,rfl,F,rfl⟩
      ·intro ρ w101o F101o hS hρ
       have q4:ρ 4=.pointer (some ⟨b64,0,none⟩):=hρ 4 (by kernel_rfl)
       exact o_q (r_fa fld_api_Value_3 rfl q4) ⟨Fr.refl _ _,rfl⟩
      ·intro ρ w101o F101o hS hρ
       have q17:ρ 17=.pointer (some ⟨b64,3,none⟩):=hS 10 (by decide) 17 rfl
       exact o_q (r_ld one_bool q17 ((S64.fr ((G77.trans (Fr.ext F79)).trans (Fr.ext F101o)) sI).now.cell rfl)) ⟨Fr.refl _ _,rfl⟩
      ·intro ρ w101o F101o hS hρ
       have E171:=E87.trans F101o
       have q18:ρ 18=.bool d0.dead:=hS 11 (by decide) 18 rfl
       refine o_call cf_value_bit (by simp only [List.map,ev,q18] <;> rfl) (value_bit_c d0.dead (((hL.fr E171).cons (((((((B19.ex F27).ex F39).ex F58).ex F64).ex F71).ex F79).ex F101o).lt).cons (B79.ex F101o).lt) hx104) rfl rfl ?_
       rintro _ w' ⟨F,rfl⟩
       exact eo_nil ⟨rfl,rfl,_,rfl,F,rfl⟩
      ·intro ρ w101o F101o hS hρ
       have q5:ρ 5=.pointer (some ⟨b71,0,none⟩):=hρ 5 (by kernel_rfl)
       exact o_q (r_fa fld_api_Value_3 rfl q5) ⟨Fr.refl _ _,rfl⟩
      ·intro ρ w101o F101o hS hρ
       have q20:ρ 20=.pointer (some ⟨b71,3,none⟩):=hS 13 (by decide) 20 rfl
       exact o_q (r_ld one_bool q20 ((S71.fr (G93.trans (Fr.ext F101o)) sI).now.cell rfl)) ⟨Fr.refl _ _,rfl⟩
      ·intro ρ w101o F101o hS hρ
       have E189:=E87.trans F101o
       have q21:ρ 21=.bool d1.dead:=hS 14 (by decide) 21 rfl
       refine o_call cf_value_bit (by simp only [List.map,ev,q21] <;> rfl) (value_bit_c d1.dead (((hL.fr E189).cons (((((((B19.ex F27).ex F39).ex F58).ex F64).ex F71).ex F79).ex F101o).lt).cons (B79.ex F101o).lt) hx105) rfl rfl ?_
       rintro _ w' ⟨F,rfl⟩
       exact eo_nil ⟨rfl,rfl,_,rfl,F,rfl⟩
      ·intro ρ w101o F101o hS hρ
       have q19:ρ 19=.int .i64 x104:=hS 12 (by decide) 19 rfl
       have q22:ρ 22=.int .i64 x105:=hS 15 (by decide) 22 rfl
       exact o_q (r_int q19 q22 rfl) ⟨Fr.refl _ _,rfl⟩
      ·intro ρ w101o F101o hS hρ
       have q4:ρ 4=.pointer (some ⟨b64,0,none⟩):=hρ 4 (by kernel_rfl)
       exact o_q (r_fa fld_api_Value_4 rfl q4) ⟨Fr.refl _ _,rfl⟩
      ·intro ρ w101o F101o hS hρ
       have q24:ρ 24=.pointer (some ⟨b64,4,none⟩):=hS 17 (by decide) 24 rfl
       exact o_q (r_ld one_string q24 ((S64.fr ((G77.trans (Fr.ext F79)).trans (Fr.ext F101o)) sI).now.cell rfl)) ⟨Fr.refl _ _,rfl⟩
      ·intro ρ w101o F101o hS hρ
       have q5:ρ 5=.pointer (some ⟨b71,0,none⟩):=hρ 5 (by kernel_rfl)
       exact o_q (r_fa fld_api_Value_4 rfl q5) ⟨Fr.refl _ _,rfl⟩
      ·intro ρ w101o F101o hS hρ
       have q26:ρ 26=.pointer (some ⟨b71,4,none⟩):=hS 19 (by decide) 26 rfl
       exact o_q (r_ld one_string q26 ((S71.fr (G93.trans (Fr.ext F101o)) sI).now.cell rfl)) ⟨Fr.refl _ _,rfl⟩
      ·intro ρ w101o F101o hS hρ
       have E216:=E87.trans F101o
       have q25:ρ 25=str d0.text:=hS 18 (by decide) 25 rfl
       have q27:ρ 27=str d1.text:=hS 20 (by decide) 27 rfl
       refine o_call cf_cmp_Compare_string (by simp only [List.map,ev,q25,q27] <;> rfl) (cmp_Compare_string_c d0.text d1.text (((hL.fr E216).cons (((((((B19.ex F27).ex F39).ex F58).ex F64).ex F71).ex F79).ex F101o).lt).cons (B79.ex F101o).lt) hx106) rfl rfl ?_
       rintro _ w' ⟨F,rfl⟩
       exact eo_nil ⟨rfl,rfl,_,rfl,F,rfl⟩
      ·intro ρ w101o F101o hS hρ
       have q11:ρ 11=.int .i64 x102:=hS 4 (by decide) 11 rfl
       have q16:ρ 16=.int .i64 x103:=hS 9 (by decide) 16 rfl
       have q23:ρ 23=.int .i64 (IntKind.i64.wrap (x104 - x105)):=hS 16 (by decide) 23 rfl
       have q28:ρ 28=.int .i64 x106:=hS 21 (by decide) 28 rfl
       refine o_bslice slc_s_int rfl (vs:=[.int .i64 x102,.int .i64 x103,.int .i64 (IntKind.i64.wrap (x104 - x105)),.int .i64 x106]) (by simp only [List.map,ev,idx,q11,q16,q23,q28]) rfl rfl (cs:=[.int .i64 x102,.int .i64 x103,.int .i64 (IntKind.i64.wrap (x104 - x105)),.int .i64 x106]) rfl rfl rfl rfl ?_
       intro b w' e F B
       exact eo_nil ⟨rfl,rfl,_,rfl,F,b,rfl,B,by rw [e]; exact F101o.size⟩
      ·intro ρ w101o F101o hS hρ
       have E225:=E87.trans F101o
       obtain ⟨b101_22,q29,B101_22,qB101_22⟩:=hS 22 (by decide) 29 rfl
       refine o_call cf_value_first (by simp only [List.map,ev,q29] <;> rfl) (value_first_c ([x102,x103,(IntKind.i64.wrap (x104 - x105)),x106]:List Int) (bs_seal (ys:=([x102,x103,(IntKind.i64.wrap (x104 - x105)),x106]:List Int)) B101_22 (fun hm=>by have:=hLd101 _ hm; omega) rfl (rowd_cons (cs:=[.int .i64 x102]) (fun _ _=>rfl) rfl (rowd_cons (cs:=[.int .i64 x103]) (fun _ _=>rfl) rfl (rowd_cons (cs:=[.int .i64 (IntKind.i64.wrap (x104 - x105))]) (fun _ _=>rfl) rfl (rowd1 (cs:=[.int .i64 x106]) (fun _ _=>rfl) rfl))))) (((hL.fr E225).cons (((((((B19.ex F27).ex F39).ex F58).ex F64).ex F71).ex F79).ex F101o).lt).cons (B79.ex F101o).lt) hx107) rfl rfl ?_
       rintro _ w' ⟨F,rfl⟩
       exact eo_nil ⟨rfl,rfl,_,rfl,F,rfl⟩
      ·intro ρ w101o F101o hS hρ
       have q30:ρ 30=.int .i64 x107:=hS 23 (by decide) 30 rfl
       exact o_q (r_int q30 rfl rfl) ⟨Fr.refl _ _,rfl⟩
     ·intro ρ w101 F101 hS hρ
      have q31:ρ 31=.bool (decide (x107<0)):=hS 24 31 rfl
      obtain ⟨ρ',rfl⟩:∃ ρ',ρ=envs (ovr [7,8,9,10,11,12,13,14,15,16,17,18,19,20,21,22,23,24,25,26,27,28,29,30,31] ρ' _) [(31,.bool (decide (x107<0)))]:=⟨ρ,ovr_self hρ ⟨q31,trivial⟩⟩
      have E234:=E87.trans F101
      refine sq_n ?_
      refine ec_cond rfl (fun hc243=>?_) (fun hc243=>?_)
      ·replace h:=h.1 hc243
       refine ec_sr ?_
       refine o_w (v:=.agg (cVal d1 A7 c8 A10 c11).toArray) (r_lda agg_api_Value rfl (vs:=(cVal d1 A7 c8 A10 c11)) rfl ((S71.fr (G93.trans (Fr.ext F101)) sI).now.part (n:=8) rfl)) ?_
       refine o_store rfl (B79.ex F101) (vs:=(cVal d1 A7 c8 A10 c11)) rfl sz_api_Value rfl rfl rfl ?_
       intro w244 F244 B244
       have E245:=Ext.st E234 F244 (by simp; omega)
       have G246:Fr L w w244:=(G88.trans (Fr.ext F101)).stp F244 (upc (.inr m81) (fun m hm=>by cases hm))
       have B252:=(((((((B19.ex F27).ex F39).ex F58).ex F64).ex F71).ex F79).ex F101).fr F244 (by simp; omega)
       have B244':Blk w244 b79 _ (cVal d1 A7 c8 A10 c11):=B244
       refine eo_nil_sq ?_
       refine ec_ret ?_
       refine sq_ret ?_
       refine endr1 (v:=.agg (cVal d1 A7 c8 A10 c11).toArray) (rv_a rfl (agg_api_Value) B244' (vs:=(cVal d1 A7 c8 A10 c11)) rfl rfl) ⟨_,rfl,?_⟩
       refine o_alloc zero_api_Value rfl rfl rfl ?_
       intro b253 w253 e253 F253 B253
       have n253:w.heap.size≤b253:=by rw [e253]; exact E245.size
       have q254:b19<b253:=by rw [e253]; exact B252.lt
       have q255:b79<b253:=by rw [e253]; exact B244'.lt
       have m256:w.heap.size≤b253:=by rw [e253]; exact G246.size
       have E262:=E245.trans F253
       refine o_store rfl B253 (vs:=(cVal d1 A7 c8 A10 c11)) rfl sz_api_Value rfl rfl rfl ?_
       intro w271 F271 B271
       have E272:=Ext.st E262 F271 (by simp; omega)
       have G273:Fr L w w271:=(G246.trans (Fr.ext F253)).stp F271 (upc (.inr m256) (fun m hm=>by cases hm))
       have B279:=(B252.ex F253).fr F271 (by simp; omega)
       have B280:=(B244'.ex F253).fr F271 (by simp; omega)
       have B271':Blk w271 b253 _ (cVal d1 A7 c8 A10 c11):=B271
       refine eo_nil_sq ?_
       refine ec_seq ?_
       obtain ⟨x284,hx284,h⟩:=h
       obtain ⟨x288,hx288,h⟩:=h
       have qb283_b253:b253<w271.heap.size:=B271'.lt
       refine ec_anyN (by kernel_rfl) [[],[0],[0,1],[],[3],[0,1,2,3,4],[0,1,2,3,4],[0,1,2,3,4,5,6],[0,1,2,3,4,5,6,7],[0,1,2,3,4,5,6,7,8]] [34,35,36,37,38,39,40,41] (b253::[]) [7,9] [[b253],[b253]] [[7,8,9],[9]] [fun w'=>Blk w' b253 25 (cVal d1 A7 c8 A10 c11),fun w'=>∃ A285 c286,Stb (b253::(b79::(b19::L))) w' (fun w=>SlC (kI .i64) w A285 c286 x284)∧Blk w' b253 25 [.int .i64 d1.kind,.int .i64 d1.time,.int .i64 d1.node,.bool d1.dead,str d1.text,.slice A285 x284.length c286,.slice A10 d1.minus.length c11,.int .u64 d1.flags],fun w'=>∃ A285 c286 A289 c290,Stb (b253::(b79::(b19::L))) w' (fun w=>SlC (kI .i64) w A285 c286 x284)∧Stb (b253::(b79::(b19::L))) w' (fun w=>SlC (kI .i64) w A289 c290 x288)∧Blk w' b253 25 [.int .i64 d1.kind,.int .i64 d1.time,.int .i64 d1.node,.bool d1.dead,str d1.text,.slice A285 x284.length c286,.slice A289 x288.length c290,.int .u64 d1.flags]] [fun v _=>v=(.pointer (some ⟨b253,5,none⟩):Value),fun v _=>v=(.slice A7 d1.plus.length c8:Value),fun v w'=>∃ A285 c286,v=(.slice A285 x284.length c286:Value)∧Stb (b253::(b79::(b19::L))) w' (fun w=>SlC (kI .i64) w A285 c286 x284),fun v _=>v=(.pointer (some ⟨b253,6,none⟩):Value),fun v _=>v=(.slice A10 d1.minus.length c11:Value),fun v w'=>∃ A289 c290,v=(.slice A289 x288.length c290:Value)∧Stb (b253::(b79::(b19::L))) w' (fun w=>SlC (kI .i64) w A289 c290 x288),fun v _=>v=(.pointer (some ⟨b253,5,none⟩):Value),fun _ _=>True,fun v _=>v=(.pointer (some ⟨b253,6,none⟩):Value),fun _ _=>True] (by kernel_rfl) (allM1 (fun m hm=>by first | exact hm | (simp at hm ⊢; simp [hm]; done) | simp_all) (allM1 (fun m hm=>by first | exact hm | (simp at hm ⊢; simp [hm]; done) | simp_all) (fun _ h=>by cases h))) ⟨fun _ _ _ _ _ h=>h,fun _ _ _ _ _ h=>h,fun _ v w' w'' F h=>by obtain ⟨A285,c286,hv,H287⟩:=h; exact ⟨A285,c286,hv,(H287.ex F)⟩,fun _ _ _ _ _ h=>h,fun _ _ _ _ _ h=>h,fun _ v w' w'' F h=>by obtain ⟨A289,c290,hv,H291⟩:=h; exact ⟨A289,c290,hv,(H291.ex F)⟩,fun _ _ _ _ _ h=>h,fun _ _ _ _ _ h=>h,fun _ _ _ _ _ h=>h,fun _ _ _ _ _ h=>h,trivial⟩ ⟨⟨fun _ _ _ _ _ h=>h,fun _ _ _ _ _ h=>h,fun _ v w' w'' F h=>by obtain ⟨A285,c286,hv,H287⟩:=h; exact ⟨A285,c286,hv,(H287.fr F (by simp))⟩,fun _ _ _ _ _ h=>h,fun _ _ _ _ _ h=>h,fun _ v w' w'' F h=>by obtain ⟨A289,c290,hv,H291⟩:=h; exact ⟨A289,c290,hv,(H291.fr F (by simp))⟩,fun _ _ _ _ _ h=>h,(fun h=>absurd h (by decide)),(fun h=>absurd h (by decide)),(fun h=>absurd h (by decide)),trivial⟩,⟨fun _ _ _ _ _ h=>h,fun _ _ _ _ _ h=>h,fun _ v w' w'' F h=>by obtain ⟨A285,c286,hv,H287⟩:=h; exact ⟨A285,c286,hv,(H287.fr F (by simp))⟩,fun _ _ _ _ _ h=>h,fun _ _ _ _ _ h=>h,fun _ v w' w'' F h=>by obtain ⟨A289,c290,hv,H291⟩:=h; exact ⟨A289,c290,hv,(H291.fr F (by simp))⟩,fun _ _ _ _ _ h=>h,fun _ _ _ _ _ h=>h,fun _ _ _ _ _ h=>h,(fun h=>absurd h (by decide)),trivial⟩,trivial⟩ ⟨fun w' w'' F h=>by have hB283_b253:=h; exact (hB283_b253.ex F),fun w' w'' F h=>by obtain ⟨A285,c286,H287,hB283_b253⟩:=h; exact ⟨A285,c286,(H287.ex F),(hB283_b253.ex F)⟩,fun w' w'' F h=>by obtain ⟨A285,c286,A289,c290,H287,H291,hB283_b253⟩:=h; exact ⟨A285,c286,A289,c290,(H287.ex F),(H291.ex F),(hB283_b253.ex F)⟩,trivial⟩ B271' ?_ ?_ ?_
       ·refine ⟨?_,?_,?_,?_,?_,?_,?_,?_,?_,?_,trivial⟩
        ·intro _ ρ w283o F283o hX hS hρ
         have F283o:=hX 7 rfl rfl
         have q8:ρ 8=.pointer (some ⟨b253,0,none⟩):=hρ 8 (by kernel_rfl)
         exact o_q (r_fa fld_api_Value_5 rfl q8) ⟨Fr.refl _ _,rfl⟩
        ·intro _ ρ w283o F283o hX hS hρ
         have F283o:=hX 7 rfl rfl
         have q34:ρ 34=.pointer (some ⟨b253,5,none⟩):=hS 0 (by decide) 34 rfl
         exact o_q (r_ld one_s_int q34 ((B271'.ex F283o).cell rfl)) ⟨Fr.refl _ _,rfl⟩
        ·intro _ ρ w283o F283o hX hS hρ
         have F283o:=hX 7 rfl rfl
         have E302:=E272.trans F283o
         have q35:ρ 35=.slice A7 d1.plus.length c8:=hS 1 (by decide) 35 rfl
         refine o_call cf_slices_Clone_int (by simp only [List.map,ev,q35] <;> rfl) (slices_Clone_int_c d1.plus (H9.up (G273.trans (Fr.ext F283o)) sI (upc (.inr m256) (upc (.inr m81) (upc (.inr m20) (fun _ h=>.inl h))))) ((((hL.fr E302).cons (B279.ex F283o).lt).cons (B280.ex F283o).lt).cons (B271'.ex F283o).lt) hx284) rfl rfl ?_
         intro v' w' hv'
         obtain ⟨F,O,Nn⟩:=hv'
         obtain ⟨A285,c286,ev,H287⟩:=O.still
         subst ev
         exact eo_nil ⟨rfl,rfl,_,rfl,F,⟨A285,c286,rfl,H287⟩⟩
        ·intro _ ρ w283o F283o hX hS hρ
         have F283o:=hX 7 rfl rfl
         have q8:ρ 8=.pointer (some ⟨b253,0,none⟩):=hρ 8 (by kernel_rfl)
         exact o_q (r_fa fld_api_Value_6 rfl q8) ⟨Fr.refl _ _,rfl⟩
        ·intro _ ρ w283o F283o hX hS hρ
         have F283o:=hX 7 rfl rfl
         have q37:ρ 37=.pointer (some ⟨b253,6,none⟩):=hS 3 (by decide) 37 rfl
         exact o_q (r_ld one_s_int q37 ((B271'.ex F283o).cell rfl)) ⟨Fr.refl _ _,rfl⟩
        ·intro _ ρ w283o F283o hX hS hρ
         have F283o:=hX 7 rfl rfl
         have E322:=E272.trans F283o
         have q38:ρ 38=.slice A10 d1.minus.length c11:=hS 4 (by decide) 38 rfl
         refine o_call cf_slices_Clone_int (by simp only [List.map,ev,q38] <;> rfl) (slices_Clone_int_c d1.minus (H12.up (G273.trans (Fr.ext F283o)) sI (upc (.inr m256) (upc (.inr m81) (upc (.inr m20) (fun _ h=>.inl h))))) ((((hL.fr E322).cons (B279.ex F283o).lt).cons (B280.ex F283o).lt).cons (B271'.ex F283o).lt) hx288) rfl rfl ?_
         intro v' w' hv'
         obtain ⟨F,O,Nn⟩:=hv'
         obtain ⟨A289,c290,ev,H291⟩:=O.still
         subst ev
         exact eo_nil ⟨rfl,rfl,_,rfl,F,⟨A289,c290,rfl,H291⟩⟩
        ·intro _ ρ w283o F283o hX hS hρ
         have F283o:=hX 7 rfl rfl
         have q8:ρ 8=.pointer (some ⟨b253,0,none⟩):=hρ 8 (by kernel_rfl)
         exact o_q (r_fa fld_api_Value_5 rfl q8) ⟨Fr.refl _ _,rfl⟩
        ·intro hT; exact absurd hT (by decide)
        ·intro _ ρ w283o F283o hX hS hρ
         have q8:ρ 8=.pointer (some ⟨b253,0,none⟩):=hρ 8 (by kernel_rfl)
         exact o_q (r_fa fld_api_Value_6 rfl q8) ⟨Fr.refl _ _,rfl⟩
        ·intro hT; exact absurd hT (by decide)
       ·refine ⟨⟨_,rfl,?_⟩,⟨_,rfl,?_⟩,trivial⟩
        ·intro ρ w283o F283o hX hI hS hρ
         have F283o:=hX rfl
         have hB283_b253:=hI
         obtain ⟨A285,c286,q36,H287⟩:=hS 2 (by decide) 36 rfl
         have q40:ρ 40=.pointer (some ⟨b253,5,none⟩):=hS 6 (by decide) 40 rfl
         refine o_store (show ev ρ _=_ from q40) hB283_b253 (vs:=[.slice A285 x284.length c286]) (congrArg Value.cells q36) sz_s_int rfl rfl rfl ?_
         intro w' F B2
         exact eo_nil ⟨rfl,rfl,undef,rfl,F,⟨A285,c286,(H287.fr F (by simp)),B2⟩,trivial⟩
        ·intro ρ w283o F283o hX hI hS hρ
         obtain ⟨A285,c286,H287,hB283_b253⟩:=hI
         obtain ⟨A289,c290,q39,H291⟩:=hS 5 (by decide) 39 rfl
         have q41:ρ 41=.pointer (some ⟨b253,6,none⟩):=hS 8 (by decide) 41 rfl
         refine o_store (show ev ρ _=_ from q41) hB283_b253 (vs:=[.slice A289 x288.length c290]) (congrArg Value.cells q39) sz_s_int rfl rfl rfl ?_
         intro w' F B2
         exact eo_nil ⟨rfl,rfl,undef,rfl,F,⟨A285,c286,A289,c290,(H287.fr F (by simp)),(H291.fr F (by simp)),B2⟩,trivial⟩
       ·intro ρ w283 F283 hI hS hρ
        obtain ⟨A285,c286,A289,c290,H287,H291,hB283_b253⟩:=hI
        obtain ⟨ρ',rfl⟩:∃ ρ',ρ=envs (ovr [34,35,36,37,38,39,40,41] ρ' _) []:=⟨ρ,ovr_self hρ trivial⟩
        have E351:Ext w w283:=Ext.st E272 F283 (upc n253 (fun m hm=>by cases hm))
        have B358:=B279.fr F283 (fun hm=>(show ∀ m∈_,m≠b19 from (upc (by omega) (fun m hm=>by cases hm))) _ hm rfl)
        have Z283:=Fr.refl (b253::(b79::(b19::L))) w283
        refine sq_n ?_
        refine ec_sr ?_
        refine o_w (v:=.agg #[.int .i64 d1.kind,.int .i64 d1.time,.int .i64 d1.node,.bool d1.dead,str d1.text,.slice A285 x284.length c286,.slice A289 x288.length c290,.int .u64 d1.flags]) (r_lda agg_api_Value rfl (vs:=[.int .i64 d1.kind,.int .i64 d1.time,.int .i64 d1.node,.bool d1.dead,str d1.text,.slice A285 x284.length c286,.slice A289 x288.length c290,.int .u64 d1.flags]) rfl (hB283_b253.part (n:=8) rfl)) ?_
        refine o_store rfl B358 (vs:=[.int .i64 d1.kind,.int .i64 d1.time,.int .i64 d1.node,.bool d1.dead,str d1.text,.slice A285 x284.length c286,.slice A289 x288.length c290,.int .u64 d1.flags]) rfl sz_api_Value rfl rfl rfl ?_
        intro w360 F360 B360
        have E361:=Ext.st E351 F360 (by simp; omega)
        have G368:Fr (b253::(b79::(b19::L))) w283 w360:=Z283.stp F360 (upc (.inl (mT (mT mH))) (fun m hm=>by cases hm))
        have B360':Blk w360 b19 _ [.int .i64 d1.kind,.int .i64 d1.time,.int .i64 d1.node,.bool d1.dead,str d1.text,.slice A285 x284.length c286,.slice A289 x288.length c290,.int .u64 d1.flags]:=B360
        refine o_w (v:=.int .i64 0) (r_asg rfl) ?_
        refine eo_nil_sq ?_
        refine ec_ret ?_
        subst h
        exact (endr2 (rv_a rfl (agg_api_Value) B360' (vs:=[.int .i64 d1.kind,.int .i64 d1.time,.int .i64 d1.node,.bool d1.dead,str d1.text,.slice A285 x284.length c286,.slice A289 x288.length c290,.int .u64 d1.flags]) rfl rfl) (rv_t rfl) ⟨_,rfl,E361,_,rfl,(kVal_mk (d:=(⟨d1.kind,d1.time,d1.node,d1.dead,d1.text,x284,x288,d1.flags⟩:Val)) (H287.up G368 sI (fun m hm=>Or.inl (mT (mT (mT hm))))) (H291.up G368 sI (fun m hm=>Or.inl (mT (mT (mT hm))))))⟩)
      ·replace h:=h.2 hc243
       refine ec_skip ?_
       refine sq_n ?_
       refine ec_sr ?_
       refine o_w (v:=.agg (cVal d0 A1 c2 A4 c5).toArray) (r_lda agg_api_Value rfl (vs:=(cVal d0 A1 c2 A4 c5)) rfl ((S64.fr ((G77.trans (Fr.ext F79)).trans (Fr.ext F101)) sI).now.part (n:=8) rfl)) ?_
       refine o_store rfl (B79.ex F101) (vs:=(cVal d0 A1 c2 A4 c5)) rfl sz_api_Value rfl rfl rfl ?_
       intro w371 F371 B371
       have E372:=Ext.st E234 F371 (by simp; omega)
       have G373:Fr L w w371:=(G88.trans (Fr.ext F101)).stp F371 (upc (.inr m81) (fun m hm=>by cases hm))
       have B379:=(((((((B19.ex F27).ex F39).ex F58).ex F64).ex F71).ex F79).ex F101).fr F371 (by simp; omega)
       have B371':Blk w371 b79 _ (cVal d0 A1 c2 A4 c5):=B371
       refine eo_nil_sq ?_
       refine ec_ret ?_
       refine endr1 (v:=.agg (cVal d0 A1 c2 A4 c5).toArray) (rv_a rfl (agg_api_Value) B371' (vs:=(cVal d0 A1 c2 A4 c5)) rfl rfl) ⟨_,rfl,?_⟩
       refine o_alloc zero_api_Value rfl rfl rfl ?_
       intro b380 w380 e380 F380 B380
       have n380:w.heap.size≤b380:=by rw [e380]; exact E372.size
       have q381:b19<b380:=by rw [e380]; exact B379.lt
       have q382:b79<b380:=by rw [e380]; exact B371'.lt
       have m383:w.heap.size≤b380:=by rw [e380]; exact G373.size
       have E389:=E372.trans F380
       refine o_store rfl B380 (vs:=(cVal d0 A1 c2 A4 c5)) rfl sz_api_Value rfl rfl rfl ?_
       intro w398 F398 B398
       have E399:=Ext.st E389 F398 (by simp; omega)
       have G400:Fr L w w398:=(G373.trans (Fr.ext F380)).stp F398 (upc (.inr m383) (fun m hm=>by cases hm))
       have B406:=(B379.ex F380).fr F398 (by simp; omega)
       have B407:=(B371'.ex F380).fr F398 (by simp; omega)
       have B398':Blk w398 b380 _ (cVal d0 A1 c2 A4 c5):=B398
       refine eo_nil_sq ?_
       refine ec_seq ?_
       obtain ⟨x411,hx411,h⟩:=h
       obtain ⟨x415,hx415,h⟩:=h
       have qb410_b380:b380<w398.heap.size:=B398'.lt
       refine ec_anyN (by kernel_rfl) [[],[0],[0,1],[],[3],[0,1,2,3,4],[0,1,2,3,4],[0,1,2,3,4,5,6],[0,1,2,3,4,5,6,7],[0,1,2,3,4,5,6,7,8]] [34,35,36,37,38,39,40,41] (b380::[]) [7,9] [[b380],[b380]] [[7,8,9],[9]] [fun w'=>Blk w' b380 25 (cVal d0 A1 c2 A4 c5),fun w'=>∃ A412 c413,Stb (b380::(b79::(b19::L))) w' (fun w=>SlC (kI .i64) w A412 c413 x411)∧Blk w' b380 25 [.int .i64 d0.kind,.int .i64 d0.time,.int .i64 d0.node,.bool d0.dead,str d0.text,.slice A412 x411.length c413,.slice A4 d0.minus.length c5,.int .u64 d0.flags],fun w'=>∃ A412 c413 A416 c417,Stb (b380::(b79::(b19::L))) w' (fun w=>SlC (kI .i64) w A412 c413 x411)∧Stb (b380::(b79::(b19::L))) w' (fun w=>SlC (kI .i64) w A416 c417 x415)∧Blk w' b380 25 [.int .i64 d0.kind,.int .i64 d0.time,.int .i64 d0.node,.bool d0.dead,str d0.text,.slice A412 x411.length c413,.slice A416 x415.length c417,.int .u64 d0.flags]] [fun v _=>v=(.pointer (some ⟨b380,5,none⟩):Value),fun v _=>v=(.slice A1 d0.plus.length c2:Value),fun v w'=>∃ A412 c413,v=(.slice A412 x411.length c413:Value)∧Stb (b380::(b79::(b19::L))) w' (fun w=>SlC (kI .i64) w A412 c413 x411),fun v _=>v=(.pointer (some ⟨b380,6,none⟩):Value),fun v _=>v=(.slice A4 d0.minus.length c5:Value),fun v w'=>∃ A416 c417,v=(.slice A416 x415.length c417:Value)∧Stb (b380::(b79::(b19::L))) w' (fun w=>SlC (kI .i64) w A416 c417 x415),fun v _=>v=(.pointer (some ⟨b380,5,none⟩):Value),fun _ _=>True,fun v _=>v=(.pointer (some ⟨b380,6,none⟩):Value),fun _ _=>True] (by kernel_rfl) (allM1 (fun m hm=>by first | exact hm | (simp at hm ⊢; simp [hm]; done) | simp_all) (allM1 (fun m hm=>by first | exact hm | (simp at hm ⊢; simp [hm]; done) | simp_all) (fun _ h=>by cases h))) ⟨fun _ _ _ _ _ h=>h,fun _ _ _ _ _ h=>h,fun _ v w' w'' F h=>by obtain ⟨A412,c413,hv,H414⟩:=h; exact ⟨A412,c413,hv,(H414.ex F)⟩,fun _ _ _ _ _ h=>h,fun _ _ _ _ _ h=>h,fun _ v w' w'' F h=>by obtain ⟨A416,c417,hv,H418⟩:=h; exact ⟨A416,c417,hv,(H418.ex F)⟩,fun _ _ _ _ _ h=>h,fun _ _ _ _ _ h=>h,fun _ _ _ _ _ h=>h,fun _ _ _ _ _ h=>h,trivial⟩ ⟨⟨fun _ _ _ _ _ h=>h,fun _ _ _ _ _ h=>h,fun _ v w' w'' F h=>by obtain ⟨A412,c413,hv,H414⟩:=h; exact ⟨A412,c413,hv,(H414.fr F (by simp))⟩,fun _ _ _ _ _ h=>h,fun _ _ _ _ _ h=>h,fun _ v w' w'' F h=>by obtain ⟨A416,c417,hv,H418⟩:=h; exact ⟨A416,c417,hv,(H418.fr F (by simp))⟩,fun _ _ _ _ _ h=>h,(fun h=>absurd h (by decide)),(fun h=>absurd h (by decide)),(fun h=>absurd h (by decide)),trivial⟩,⟨fun _ _ _ _ _ h=>h,fun _ _ _ _ _ h=>h,fun _ v w' w'' F h=>by obtain ⟨A412,c413,hv,H414⟩:=h; exact ⟨A412,c413,hv,(H414.fr F (by simp))⟩,fun _ _ _ _ _ h=>h,fun _ _ _ _ _ h=>h,fun _ v w' w'' F h=>by obtain ⟨A416,c417,hv,H418⟩:=h; exact ⟨A416,c417,hv,(H418.fr F (by simp))⟩,fun _ _ _ _ _ h=>h,fun _ _ _ _ _ h=>h,fun _ _ _ _ _ h=>h,(fun h=>absurd h (by decide)),trivial⟩,trivial⟩ ⟨fun w' w'' F h=>by have hB410_b380:=h; exact (hB410_b380.ex F),fun w' w'' F h=>by obtain ⟨A412,c413,H414,hB410_b380⟩:=h; exact ⟨A412,c413,(H414.ex F),(hB410_b380.ex F)⟩,fun w' w'' F h=>by obtain ⟨A412,c413,A416,c417,H414,H418,hB410_b380⟩:=h; exact ⟨A412,c413,A416,c417,(H414.ex F),(H418.ex F),(hB410_b380.ex F)⟩,trivial⟩ B398' ?_ ?_ ?_
       ·refine ⟨?_,?_,?_,?_,?_,?_,?_,?_,?_,?_,trivial⟩
        ·intro _ ρ w410o F410o hX hS hρ
         have F410o:=hX 7 rfl rfl
         have q8:ρ 8=.pointer (some ⟨b380,0,none⟩):=hρ 8 (by kernel_rfl)
         exact o_q (r_fa fld_api_Value_5 rfl q8) ⟨Fr.refl _ _,rfl⟩
        ·intro _ ρ w410o F410o hX hS hρ
         have F410o:=hX 7 rfl rfl
         have q34:ρ 34=.pointer (some ⟨b380,5,none⟩):=hS 0 (by decide) 34 rfl
         exact o_q (r_ld one_s_int q34 ((B398'.ex F410o).cell rfl)) ⟨Fr.refl _ _,rfl⟩
        ·intro _ ρ w410o F410o hX hS hρ
         have F410o:=hX 7 rfl rfl
         have E429:=E399.trans F410o
         have q35:ρ 35=.slice A1 d0.plus.length c2:=hS 1 (by decide) 35 rfl
         refine o_call cf_slices_Clone_int (by simp only [List.map,ev,q35] <;> rfl) (slices_Clone_int_c d0.plus (H3.up (G400.trans (Fr.ext F410o)) sI (upc (.inr m383) (upc (.inr m81) (upc (.inr m20) (fun _ h=>.inl h))))) ((((hL.fr E429).cons (B406.ex F410o).lt).cons (B407.ex F410o).lt).cons (B398'.ex F410o).lt) hx411) rfl rfl ?_
         intro v' w' hv'
         obtain ⟨F,O,Nn⟩:=hv'
         obtain ⟨A412,c413,ev,H414⟩:=O.still
         subst ev
         exact eo_nil ⟨rfl,rfl,_,rfl,F,⟨A412,c413,rfl,H414⟩⟩
        ·intro _ ρ w410o F410o hX hS hρ
         have F410o:=hX 7 rfl rfl
         have q8:ρ 8=.pointer (some ⟨b380,0,none⟩):=hρ 8 (by kernel_rfl)
         exact o_q (r_fa fld_api_Value_6 rfl q8) ⟨Fr.refl _ _,rfl⟩
        ·intro _ ρ w410o F410o hX hS hρ
         have F410o:=hX 7 rfl rfl
         have q37:ρ 37=.pointer (some ⟨b380,6,none⟩):=hS 3 (by decide) 37 rfl
         exact o_q (r_ld one_s_int q37 ((B398'.ex F410o).cell rfl)) ⟨Fr.refl _ _,rfl⟩
        ·intro _ ρ w410o F410o hX hS hρ
         have F410o:=hX 7 rfl rfl
         have E449:=E399.trans F410o
         have q38:ρ 38=.slice A4 d0.minus.length c5:=hS 4 (by decide) 38 rfl
         refine o_call cf_slices_Clone_int (by simp only [List.map,ev,q38] <;> rfl) (slices_Clone_int_c d0.minus (H6.up (G400.trans (Fr.ext F410o)) sI (upc (.inr m383) (upc (.inr m81) (upc (.inr m20) (fun _ h=>.inl h))))) ((((hL.fr E449).cons (B406.ex F410o).lt).cons (B407.ex F410o).lt).cons (B398'.ex F410o).lt) hx415) rfl rfl ?_
         intro v' w' hv'
         obtain ⟨F,O,Nn⟩:=hv'
         obtain ⟨A416,c417,ev,H418⟩:=O.still
         subst ev
         exact eo_nil ⟨rfl,rfl,_,rfl,F,⟨A416,c417,rfl,H418⟩⟩
        ·intro _ ρ w410o F410o hX hS hρ
         have F410o:=hX 7 rfl rfl
         have q8:ρ 8=.pointer (some ⟨b380,0,none⟩):=hρ 8 (by kernel_rfl)
         exact o_q (r_fa fld_api_Value_5 rfl q8) ⟨Fr.refl _ _,rfl⟩
        ·intro hT; exact absurd hT (by decide)
        ·intro _ ρ w410o F410o hX hS hρ
         have q8:ρ 8=.pointer (some ⟨b380,0,none⟩):=hρ 8 (by kernel_rfl)
         exact o_q (r_fa fld_api_Value_6 rfl q8) ⟨Fr.refl _ _,rfl⟩
        ·intro hT; exact absurd hT (by decide)
       ·refine ⟨⟨_,rfl,?_⟩,⟨_,rfl,?_⟩,trivial⟩
        ·intro ρ w410o F410o hX hI hS hρ
         have F410o:=hX rfl
         have hB410_b380:=hI
         obtain ⟨A412,c413,q36,H414⟩:=hS 2 (by decide) 36 rfl
         have q40:ρ 40=.pointer (some ⟨b380,5,none⟩):=hS 6 (by decide) 40 rfl
         refine o_store (show ev ρ _=_ from q40) hB410_b380 (vs:=[.slice A412 x411.length c413]) (congrArg Value.cells q36) sz_s_int rfl rfl rfl ?_
         intro w' F B2
         exact eo_nil ⟨rfl,rfl,undef,rfl,F,⟨A412,c413,(H414.fr F (by simp)),B2⟩,trivial⟩
        ·intro ρ w410o F410o hX hI hS hρ
         obtain ⟨A412,c413,H414,hB410_b380⟩:=hI
         obtain ⟨A416,c417,q39,H418⟩:=hS 5 (by decide) 39 rfl
         have q41:ρ 41=.pointer (some ⟨b380,6,none⟩):=hS 8 (by decide) 41 rfl
         refine o_store (show ev ρ _=_ from q41) hB410_b380 (vs:=[.slice A416 x415.length c417]) (congrArg Value.cells q39) sz_s_int rfl rfl rfl ?_
         intro w' F B2
         exact eo_nil ⟨rfl,rfl,undef,rfl,F,⟨A412,c413,A416,c417,(H414.fr F (by simp)),(H418.fr F (by simp)),B2⟩,trivial⟩
       ·intro ρ w410 F410 hI hS hρ
        obtain ⟨A412,c413,A416,c417,H414,H418,hB410_b380⟩:=hI
        obtain ⟨ρ',rfl⟩:∃ ρ',ρ=envs (ovr [34,35,36,37,38,39,40,41] ρ' _) []:=⟨ρ,ovr_self hρ trivial⟩
        have E478:Ext w w410:=Ext.st E399 F410 (upc n380 (fun m hm=>by cases hm))
        have B485:=B406.fr F410 (fun hm=>(show ∀ m∈_,m≠b19 from (upc (by omega) (fun m hm=>by cases hm))) _ hm rfl)
        have Z410:=Fr.refl (b380::(b79::(b19::L))) w410
        refine sq_n ?_
        refine ec_sr ?_
        refine o_w (v:=.agg #[.int .i64 d0.kind,.int .i64 d0.time,.int .i64 d0.node,.bool d0.dead,str d0.text,.slice A412 x411.length c413,.slice A416 x415.length c417,.int .u64 d0.flags]) (r_lda agg_api_Value rfl (vs:=[.int .i64 d0.kind,.int .i64 d0.time,.int .i64 d0.node,.bool d0.dead,str d0.text,.slice A412 x411.length c413,.slice A416 x415.length c417,.int .u64 d0.flags]) rfl (hB410_b380.part (n:=8) rfl)) ?_
        refine o_store rfl B485 (vs:=[.int .i64 d0.kind,.int .i64 d0.time,.int .i64 d0.node,.bool d0.dead,str d0.text,.slice A412 x411.length c413,.slice A416 x415.length c417,.int .u64 d0.flags]) rfl sz_api_Value rfl rfl rfl ?_
        intro w487 F487 B487
        have E488:=Ext.st E478 F487 (by simp; omega)
        have G495:Fr (b380::(b79::(b19::L))) w410 w487:=Z410.stp F487 (upc (.inl (mT (mT mH))) (fun m hm=>by cases hm))
        have B487':Blk w487 b19 _ [.int .i64 d0.kind,.int .i64 d0.time,.int .i64 d0.node,.bool d0.dead,str d0.text,.slice A412 x411.length c413,.slice A416 x415.length c417,.int .u64 d0.flags]:=B487
        refine o_w (v:=.int .i64 0) (r_asg rfl) ?_
        refine eo_nil_sq ?_
        refine ec_ret ?_
        subst h
        exact (endr2 (rv_a rfl (agg_api_Value) B487' (vs:=[.int .i64 d0.kind,.int .i64 d0.time,.int .i64 d0.node,.bool d0.dead,str d0.text,.slice A412 x411.length c413,.slice A416 x415.length c417,.int .u64 d0.flags]) rfl rfl) (rv_t rfl) ⟨_,rfl,E488,_,rfl,(kVal_mk (d:=(⟨d0.kind,d0.time,d0.node,d0.dead,d0.text,x411,x415,d0.flags⟩:Val)) (H414.up G495 sI (fun m hm=>Or.inl (mT (mT (mT hm))))) (H418.up G495 sI (fun m hm=>Or.inl (mT (mT (mT hm))))))⟩)
    ·replace h:=h.2 hc57
     refine ec_sr ?_
     refine o_w (v:=.bool (d0.kind==2)) (r_int rfl rfl rfl) ?_
     refine o_w (v:=.bool (d0.kind==2)) (r_asg rfl) ?_
     refine eo_nil_sq ?_
     refine ec_cond rfl (fun hc498=>?_) (fun hc498=>?_)
     ·replace h:=h.1 hc498
      refine ec_sr ?_
      refine o_w (v:=.agg #[]) (r_build bld_value_counter (vs:=[]) (cells:=[]) rfl rfl) ?_
      refine o_w (v:=.iface 54 (.agg #[])) (r_mkif conc_value_counter rfl) ?_
      refine o_w (v:=.iface 54 (.agg #[])) (r_asg rfl) ?_
      refine o_w (v:=.bool true) (r_asg rfl) ?_
      refine eo_nil_sq ?_
      refine ec_ret ?_
      refine blk_ret ?_
      refine sq_ret ?_
      refine end2 (v:=.iface 54 (.agg #[])) (x:=.bool true) rfl rfl ⟨_,rfl,?_⟩
      refine o_w (v:=.tuple #[.iface 54 (.agg #[]),.bool true]) (r_mov rfl) ?_
      refine o_w (v:=.iface 54 (.agg #[])) (r_ext rfl rfl) ?_
      refine o_w (v:=.bool true) (r_ext rfl rfl) ?_
      refine o_w (v:=.iface 54 (.agg #[])) (r_asg rfl) ?_
      refine o_w (v:=.bool true) (r_asg rfl) ?_
      refine eo_r ?_
      refine o_w (v:=.iface 54 (.agg #[])) (r_mov rfl) ?_
      refine o_w (v:=.agg (cVal d0 A1 c2 A4 c5).toArray) (r_lda agg_api_Value rfl (vs:=(cVal d0 A1 c2 A4 c5)) rfl ((S13.fr (((G18.trans (Fr.ext F19)).trans (Fr.ext F27)).trans (Fr.ext F39)) sI).now.part (n:=8) rfl)) ?_
      refine o_w (v:=.agg (cVal d1 A7 c8 A10 c11).toArray) (r_lda agg_api_Value rfl (vs:=(cVal d1 A7 c8 A10 c11)) rfl ((S15.fr ((G26.trans (Fr.ext F27)).trans (Fr.ext F39)) sI).now.part (n:=8) rfl)) ?_
      refine o_inlI (vs:=[.agg (cVal d0 A1 c2 A4 c5).toArray,.agg (cVal d1 A7 c8 A10 c11).toArray]) mf_value_counter_ouroboros_value_join rfl rfl rfl rfl ?_
      refine calls_ec Try.func61 rfl rfl rfl ?_
      refine ec_sr ?_
      refine o_box (cs:=[]) rfl rfl rfl ?_
      intro b499 w499 e499 F499 B499
      have E500:=E40.trans F499
      refine o_box (cs:=(cVal d0 A1 c2 A4 c5)) rfl rfl rfl ?_
      intro b505 w505 e505 F505 B505
      have n505:w.heap.size≤b505:=by rw [e505]; exact E500.size
      have q506:b19<b505:=by rw [e505]; exact (((B19.ex F27).ex F39).ex F499).lt
      have m507:w.heap.size≤b505:=by rw [e505]; exact (G41.trans (Fr.ext F499)).size
      have E511:=E500.trans F505
      refine o_box (cs:=(cVal d1 A7 c8 A10 c11)) rfl rfl rfl ?_
      intro b517 w517 e517 F517 B517
      have S517:=B517.stb (nin (((hL.fr E511).cons ((((B19.ex F27).ex F39).ex F499).ex F505).lt).cons B505.lt) e517)
      have E518:=E511.trans F517
      refine o_alloc zero_api_Value rfl rfl rfl ?_
      intro b525 w525 e525 F525 B525
      have n525:w.heap.size≤b525:=by rw [e525]; exact E518.size
      have q526:b19<b525:=by rw [e525]; exact (((((B19.ex F27).ex F39).ex F499).ex F505).ex F517).lt
      have q527:b505<b525:=by rw [e525]; exact (B505.ex F517).lt
      have m528:w.heap.size≤b525:=by rw [e525]; exact (((G41.trans (Fr.ext F499)).trans (Fr.ext F505)).trans (Fr.ext F517)).size
      have E533:=E518.trans F525
      have G534:=(((G41.trans (Fr.ext F499)).trans (Fr.ext F505)).trans (Fr.ext F517)).trans (Fr.ext F525)
      have G538:Fr (b505::(b19::L)) w517 w525:=Fr.ext F525
      refine eo_r ?_
      refine o_w (v:=.func (.func 66) #[] #[]) (r_asg rfl) ?_
      refine eo_nil_sq ?_
      refine ec_seq ?_
      obtain ⟨x544,hx544,h⟩:=h
      obtain ⟨x548,hx548,h⟩:=h
      have qb543_b505:b505<w525.heap.size:=((B505.ex F517).ex F525).lt
      refine ec_anyN (by kernel_rfl) [[],[],[1],[],[3],[0,1,2,3,4],[],[],[7],[],[9],[0,1,2,3,4,5,6,7,8,9,10],[0,1,2,3,4,5,7,8],[0,1,2,3,4,5,6,7,8,9,10,11,12],[0,1,2,3,4,5,6,7,8,9,10,11,12,13],[0,1,2,3,4,5,6,7,8,9,10,11,12,13,14]] [8,9,10,11,12,13,14,15,16,17,18,19,20,21] (b505::[]) [13,15] [[b505],[b505]] [[13,14,15],[15]] [fun w'=>Blk w' b505 25 (cVal d0 A1 c2 A4 c5),fun w'=>∃ A545 c546,Stb (b525::(b505::(b19::L))) w' (fun w=>SlC (kI .i64) w A545 c546 x544)∧Blk w' b505 25 [.int .i64 d0.kind,.int .i64 d0.time,.int .i64 d0.node,.bool d0.dead,str d0.text,.slice A545 x544.length c546,.slice A4 d0.minus.length c5,.int .u64 d0.flags],fun w'=>∃ A545 c546 A549 c550,Stb (b525::(b505::(b19::L))) w' (fun w=>SlC (kI .i64) w A545 c546 x544)∧Stb (b525::(b505::(b19::L))) w' (fun w=>SlC (kI .i64) w A549 c550 x548)∧Blk w' b505 25 [.int .i64 d0.kind,.int .i64 d0.time,.int .i64 d0.node,.bool d0.dead,str d0.text,.slice A545 x544.length c546,.slice A549 x548.length c550,.int .u64 d0.flags]] [fun v _=>v=(.func (.func 66) #[] #[]:Value),fun v _=>v=(.pointer (some ⟨b505,5,none⟩):Value),fun v _=>v=(.slice A1 d0.plus.length c2:Value),fun v _=>v=(.pointer (some ⟨b517,5,none⟩):Value),fun v _=>v=(.slice A7 d1.plus.length c8:Value),fun v w'=>∃ A545 c546,v=(.slice A545 x544.length c546:Value)∧Stb (b525::(b505::(b19::L))) w' (fun w=>SlC (kI .i64) w A545 c546 x544),fun v _=>v=(.func (.func 66) #[] #[]:Value),fun v _=>v=(.pointer (some ⟨b505,6,none⟩):Value),fun v _=>v=(.slice A4 d0.minus.length c5:Value),fun v _=>v=(.pointer (some ⟨b517,6,none⟩):Value),fun v _=>v=(.slice A10 d1.minus.length c11:Value),fun v w'=>∃ A549 c550,v=(.slice A549 x548.length c550:Value)∧Stb (b525::(b505::(b19::L))) w' (fun w=>SlC (kI .i64) w A549 c550 x548),fun v _=>v=(.pointer (some ⟨b505,5,none⟩):Value),fun _ _=>True,fun v _=>v=(.pointer (some ⟨b505,6,none⟩):Value),fun _ _=>True] (by kernel_rfl) (allM1 (fun m hm=>by first | exact hm | (simp at hm ⊢; simp [hm]; done) | simp_all) (allM1 (fun m hm=>by first | exact hm | (simp at hm ⊢; simp [hm]; done) | simp_all) (fun _ h=>by cases h))) ⟨fun _ _ _ _ _ h=>h,fun _ _ _ _ _ h=>h,fun _ _ _ _ _ h=>h,fun _ _ _ _ _ h=>h,fun _ _ _ _ _ h=>h,fun _ v w' w'' F h=>by obtain ⟨A545,c546,hv,H547⟩:=h; exact ⟨A545,c546,hv,(H547.ex F)⟩,fun _ _ _ _ _ h=>h,fun _ _ _ _ _ h=>h,fun _ _ _ _ _ h=>h,fun _ _ _ _ _ h=>h,fun _ _ _ _ _ h=>h,fun _ v w' w'' F h=>by obtain ⟨A549,c550,hv,H551⟩:=h; exact ⟨A549,c550,hv,(H551.ex F)⟩,fun _ _ _ _ _ h=>h,fun _ _ _ _ _ h=>h,fun _ _ _ _ _ h=>h,fun _ _ _ _ _ h=>h,trivial⟩ ⟨⟨fun _ _ _ _ _ h=>h,fun _ _ _ _ _ h=>h,fun _ _ _ _ _ h=>h,fun _ _ _ _ _ h=>h,fun _ _ _ _ _ h=>h,fun _ v w' w'' F h=>by obtain ⟨A545,c546,hv,H547⟩:=h; exact ⟨A545,c546,hv,(H547.fr F (by simp))⟩,fun _ _ _ _ _ h=>h,fun _ _ _ _ _ h=>h,fun _ _ _ _ _ h=>h,fun _ _ _ _ _ h=>h,fun _ _ _ _ _ h=>h,fun _ v w' w'' F h=>by obtain ⟨A549,c550,hv,H551⟩:=h; exact ⟨A549,c550,hv,(H551.fr F (by simp))⟩,fun _ _ _ _ _ h=>h,(fun h=>absurd h (by decide)),(fun h=>absurd h (by decide)),(fun h=>absurd h (by decide)),trivial⟩,⟨fun _ _ _ _ _ h=>h,fun _ _ _ _ _ h=>h,fun _ _ _ _ _ h=>h,fun _ _ _ _ _ h=>h,fun _ _ _ _ _ h=>h,fun _ v w' w'' F h=>by obtain ⟨A545,c546,hv,H547⟩:=h; exact ⟨A545,c546,hv,(H547.fr F (by simp))⟩,fun _ _ _ _ _ h=>h,fun _ _ _ _ _ h=>h,fun _ _ _ _ _ h=>h,fun _ _ _ _ _ h=>h,fun _ _ _ _ _ h=>h,fun _ v w' w'' F h=>by obtain ⟨A549,c550,hv,H551⟩:=h; exact ⟨A549,c550,hv,(H551.fr F (by simp))⟩,fun _ _ _ _ _ h=>h,fun _ _ _ _ _ h=>h,fun _ _ _ _ _ h=>h,(fun h=>absurd h (by decide)),trivial⟩,trivial⟩ ⟨fun w' w'' F h=>by have hB543_b505:=h; exact (hB543_b505.ex F),fun w' w'' F h=>by obtain ⟨A545,c546,H547,hB543_b505⟩:=h; exact ⟨A545,c546,(H547.ex F),(hB543_b505.ex F)⟩,fun w' w'' F h=>by obtain ⟨A545,c546,A549,c550,H547,H551,hB543_b505⟩:=h; exact ⟨A545,c546,A549,c550,(H547.ex F),(H551.ex F),(hB543_b505.ex F)⟩,trivial⟩ ((B505.ex F517).ex F525) ?_ ?_ ?_
      ·refine ⟨?_,?_,?_,?_,?_,?_,?_,?_,?_,?_,?_,?_,?_,?_,?_,?_,trivial⟩
       ·intro _ ρ w543o F543o hX hS hρ
        have F543o:=hX 13 rfl rfl
        have q7:ρ 7=.func (.func 66) #[] #[]:=hρ 7 (by kernel_rfl)
        exact o_q (r_mov q7) ⟨Fr.refl _ _,rfl⟩
       ·intro _ ρ w543o F543o hX hS hρ
        have F543o:=hX 13 rfl rfl
        have q4:ρ 4=.pointer (some ⟨b505,0,none⟩):=hρ 4 (by kernel_rfl)
        exact o_q (r_fa fld_api_Value_5 rfl q4) ⟨Fr.refl _ _,rfl⟩
       ·intro _ ρ w543o F543o hX hS hρ
        have F543o:=hX 13 rfl rfl
        have q9:ρ 9=.pointer (some ⟨b505,5,none⟩):=hS 1 (by decide) 9 rfl
        exact o_q (r_ld one_s_int q9 ((((B505.ex F517).ex F525).ex F543o).cell rfl)) ⟨Fr.refl _ _,rfl⟩
       ·intro _ ρ w543o F543o hX hS hρ
        have F543o:=hX 13 rfl rfl
        have q5:ρ 5=.pointer (some ⟨b517,0,none⟩):=hρ 5 (by kernel_rfl)
        exact o_q (r_fa fld_api_Value_5 rfl q5) ⟨Fr.refl _ _,rfl⟩
       ·intro _ ρ w543o F543o hX hS hρ
        have F543o:=hX 13 rfl rfl
        have q11:ρ 11=.pointer (some ⟨b517,5,none⟩):=hS 3 (by decide) 11 rfl
        exact o_q (r_ld one_s_int q11 ((S517.fr (G538.trans (Fr.ext F543o)) sI).now.cell rfl)) ⟨Fr.refl _ _,rfl⟩
       ·intro _ ρ w543o F543o hX hS hρ
        have F543o:=hX 13 rfl rfl
        have E570:=E533.trans F543o
        have B576:=((((((B19.ex F27).ex F39).ex F499).ex F505).ex F517).ex F525).ex F543o
        have q8:ρ 8=.func (.func 66) #[] #[]:=hS 0 (by decide) 8 rfl
        have q10:ρ 10=.slice A1 d0.plus.length c2:=hS 2 (by decide) 10 rfl
        have q12:ρ 12=.slice A7 d1.plus.length c8:=hS 4 (by decide) 12 rfl
        refine o_callv cf_value_counter_join_1 (show ev ρ _=_ from q8) (by simp only [List.map,ev,q10,q12] <;> rfl) (value_counter_join_1_c d0.plus (H3.up (G534.trans (Fr.ext F543o)) sI (upc (.inr m528) (upc (.inr m507) (upc (.inr m20) (fun _ h=>.inl h))))) d1.plus (H9.up (G534.trans (Fr.ext F543o)) sI (upc (.inr m528) (upc (.inr m507) (upc (.inr m20) (fun _ h=>.inl h))))) ((((hL.fr E570).cons B576.lt).cons (((B505.ex F517).ex F525).ex F543o).lt).cons (B525.ex F543o).lt) hx544) rfl rfl ?_
        rintro _ w' ⟨F,A545,c546,rfl,H547⟩
        exact eo_nil ⟨rfl,rfl,_,rfl,F,⟨A545,c546,rfl,H547⟩⟩
       ·intro _ ρ w543o F543o hX hS hρ
        have F543o:=hX 13 rfl rfl
        have q7:ρ 7=.func (.func 66) #[] #[]:=hρ 7 (by kernel_rfl)
        exact o_q (r_mov q7) ⟨Fr.refl _ _,rfl⟩
       ·intro _ ρ w543o F543o hX hS hρ
        have F543o:=hX 13 rfl rfl
        have q4:ρ 4=.pointer (some ⟨b505,0,none⟩):=hρ 4 (by kernel_rfl)
        exact o_q (r_fa fld_api_Value_6 rfl q4) ⟨Fr.refl _ _,rfl⟩
       ·intro _ ρ w543o F543o hX hS hρ
        have F543o:=hX 13 rfl rfl
        have q15:ρ 15=.pointer (some ⟨b505,6,none⟩):=hS 7 (by decide) 15 rfl
        exact o_q (r_ld one_s_int q15 ((((B505.ex F517).ex F525).ex F543o).cell rfl)) ⟨Fr.refl _ _,rfl⟩
       ·intro _ ρ w543o F543o hX hS hρ
        have F543o:=hX 13 rfl rfl
        have q5:ρ 5=.pointer (some ⟨b517,0,none⟩):=hρ 5 (by kernel_rfl)
        exact o_q (r_fa fld_api_Value_6 rfl q5) ⟨Fr.refl _ _,rfl⟩
       ·intro _ ρ w543o F543o hX hS hρ
        have F543o:=hX 13 rfl rfl
        have q17:ρ 17=.pointer (some ⟨b517,6,none⟩):=hS 9 (by decide) 17 rfl
        exact o_q (r_ld one_s_int q17 ((S517.fr (G538.trans (Fr.ext F543o)) sI).now.cell rfl)) ⟨Fr.refl _ _,rfl⟩
       ·intro _ ρ w543o F543o hX hS hρ
        have F543o:=hX 13 rfl rfl
        have E597:=E533.trans F543o
        have B603:=((((((B19.ex F27).ex F39).ex F499).ex F505).ex F517).ex F525).ex F543o
        have q14:ρ 14=.func (.func 66) #[] #[]:=hS 6 (by decide) 14 rfl
        have q16:ρ 16=.slice A4 d0.minus.length c5:=hS 8 (by decide) 16 rfl
        have q18:ρ 18=.slice A10 d1.minus.length c11:=hS 10 (by decide) 18 rfl
        refine o_callv cf_value_counter_join_1 (show ev ρ _=_ from q14) (by simp only [List.map,ev,q16,q18] <;> rfl) (value_counter_join_1_c d0.minus (H6.up (G534.trans (Fr.ext F543o)) sI (upc (.inr m528) (upc (.inr m507) (upc (.inr m20) (fun _ h=>.inl h))))) d1.minus (H12.up (G534.trans (Fr.ext F543o)) sI (upc (.inr m528) (upc (.inr m507) (upc (.inr m20) (fun _ h=>.inl h))))) ((((hL.fr E597).cons B603.lt).cons (((B505.ex F517).ex F525).ex F543o).lt).cons (B525.ex F543o).lt) hx548) rfl rfl ?_
        rintro _ w' ⟨F,A549,c550,rfl,H551⟩
        exact eo_nil ⟨rfl,rfl,_,rfl,F,⟨A549,c550,rfl,H551⟩⟩
       ·intro _ ρ w543o F543o hX hS hρ
        have F543o:=hX 13 rfl rfl
        have q4:ρ 4=.pointer (some ⟨b505,0,none⟩):=hρ 4 (by kernel_rfl)
        exact o_q (r_fa fld_api_Value_5 rfl q4) ⟨Fr.refl _ _,rfl⟩
       ·intro hT; exact absurd hT (by decide)
       ·intro _ ρ w543o F543o hX hS hρ
        have q4:ρ 4=.pointer (some ⟨b505,0,none⟩):=hρ 4 (by kernel_rfl)
        exact o_q (r_fa fld_api_Value_6 rfl q4) ⟨Fr.refl _ _,rfl⟩
       ·intro hT; exact absurd hT (by decide)
      ·refine ⟨⟨_,rfl,?_⟩,⟨_,rfl,?_⟩,trivial⟩
       ·intro ρ w543o F543o hX hI hS hρ
        have F543o:=hX rfl
        have hB543_b505:=hI
        obtain ⟨A545,c546,q13,H547⟩:=hS 5 (by decide) 13 rfl
        have q20:ρ 20=.pointer (some ⟨b505,5,none⟩):=hS 12 (by decide) 20 rfl
        refine o_store (show ev ρ _=_ from q20) hB543_b505 (vs:=[.slice A545 x544.length c546]) (congrArg Value.cells q13) sz_s_int rfl rfl rfl ?_
        intro w' F B2
        exact eo_nil ⟨rfl,rfl,undef,rfl,F,⟨A545,c546,(H547.fr F (by simp)),B2⟩,trivial⟩
       ·intro ρ w543o F543o hX hI hS hρ
        obtain ⟨A545,c546,H547,hB543_b505⟩:=hI
        obtain ⟨A549,c550,q19,H551⟩:=hS 11 (by decide) 19 rfl
        have q21:ρ 21=.pointer (some ⟨b505,6,none⟩):=hS 14 (by decide) 21 rfl
        refine o_store (show ev ρ _=_ from q21) hB543_b505 (vs:=[.slice A549 x548.length c550]) (congrArg Value.cells q19) sz_s_int rfl rfl rfl ?_
        intro w' F B2
        exact eo_nil ⟨rfl,rfl,undef,rfl,F,⟨A545,c546,A549,c550,(H547.fr F (by simp)),(H551.fr F (by simp)),B2⟩,trivial⟩
      ·intro ρ w543 F543 hI hS hρ
       obtain ⟨A545,c546,A549,c550,H547,H551,hB543_b505⟩:=hI
       obtain ⟨ρ',rfl⟩:∃ ρ',ρ=envs (ovr [8,9,10,11,12,13,14,15,16,17,18,19,20,21] ρ' _) []:=⟨ρ,ovr_self hρ trivial⟩
       have E623:Ext w w543:=Ext.st E533 F543 (upc n505 (fun m hm=>by cases hm))
       have B629:=((((((B19.ex F27).ex F39).ex F499).ex F505).ex F517).ex F525).fr F543 (fun hm=>(show ∀ m∈_,m≠b19 from (upc (by omega) (fun m hm=>by cases hm))) _ hm rfl)
       have B630:=B525.fr F543 (fun hm=>(show ∀ m∈_,m≠b525 from (upc (by omega) (fun m hm=>by cases hm))) _ hm rfl)
       have Z543:=Fr.refl (b525::(b505::(b19::L))) w543
       refine sq_n ?_
       refine ec_sr ?_
       refine o_w (v:=.agg #[.int .i64 d0.kind,.int .i64 d0.time,.int .i64 d0.node,.bool d0.dead,str d0.text,.slice A545 x544.length c546,.slice A549 x548.length c550,.int .u64 d0.flags]) (r_lda agg_api_Value rfl (vs:=[.int .i64 d0.kind,.int .i64 d0.time,.int .i64 d0.node,.bool d0.dead,str d0.text,.slice A545 x544.length c546,.slice A549 x548.length c550,.int .u64 d0.flags]) rfl (hB543_b505.part (n:=8) rfl)) ?_
       refine o_store rfl B630 (vs:=[.int .i64 d0.kind,.int .i64 d0.time,.int .i64 d0.node,.bool d0.dead,str d0.text,.slice A545 x544.length c546,.slice A549 x548.length c550,.int .u64 d0.flags]) rfl sz_api_Value rfl rfl rfl ?_
       intro w631 F631 B631
       have E632:=Ext.st E623 F631 (by simp; omega)
       have G638:Fr (b525::(b505::(b19::L))) w543 w631:=Z543.stp F631 (upc (.inl mH) (fun m hm=>by cases hm))
       have B639:=B629.fr F631 (by simp; omega)
       have B640:=hB543_b505.fr F631 (by simp; omega)
       have B631':Blk w631 b525 _ [.int .i64 d0.kind,.int .i64 d0.time,.int .i64 d0.node,.bool d0.dead,str d0.text,.slice A545 x544.length c546,.slice A549 x548.length c550,.int .u64 d0.flags]:=B631
       refine eo_nil_sq ?_
       refine ec_ret ?_
       refine endr1 (v:=.agg #[.int .i64 d0.kind,.int .i64 d0.time,.int .i64 d0.node,.bool d0.dead,str d0.text,.slice A545 x544.length c546,.slice A549 x548.length c550,.int .u64 d0.flags]) (rv_a rfl (agg_api_Value) B631' (vs:=[.int .i64 d0.kind,.int .i64 d0.time,.int .i64 d0.node,.bool d0.dead,str d0.text,.slice A545 x544.length c546,.slice A549 x548.length c550,.int .u64 d0.flags]) rfl rfl) ⟨_,rfl,?_⟩
       refine o_alloc zero_api_Value rfl rfl rfl ?_
       intro b641 w641 e641 F641 B641
       have n641:w.heap.size≤b641:=by rw [e641]; exact E632.size
       have q642:b19<b641:=by rw [e641]; exact B639.lt
       have q643:b505<b641:=by rw [e641]; exact B640.lt
       have q644:b525<b641:=by rw [e641]; exact B631'.lt
       have m650:w543.heap.size≤b641:=by rw [e641]; exact G638.size
       have E651:=E632.trans F641
       refine o_store rfl B641 (vs:=[.int .i64 d0.kind,.int .i64 d0.time,.int .i64 d0.node,.bool d0.dead,str d0.text,.slice A545 x544.length c546,.slice A549 x548.length c550,.int .u64 d0.flags]) rfl sz_api_Value rfl rfl rfl ?_
       intro w661 F661 B661
       have E662:=Ext.st E651 F661 (by simp; omega)
       have G668:Fr (b525::(b505::(b19::L))) w543 w661:=(G638.trans (Fr.ext F641)).stp F661 (upc (.inr m650) (fun m hm=>by cases hm))
       have B669:=(B639.ex F641).fr F661 (by simp; omega)
       have B670:=(B640.ex F641).fr F661 (by simp; omega)
       have B671:=(B631'.ex F641).fr F661 (by simp; omega)
       have B661':Blk w661 b641 _ [.int .i64 d0.kind,.int .i64 d0.time,.int .i64 d0.node,.bool d0.dead,str d0.text,.slice A545 x544.length c546,.slice A549 x548.length c550,.int .u64 d0.flags]:=B661
       refine eo_nil_sq ?_
       refine ec_seq ?_
       obtain ⟨x675,hx675,h⟩:=h
       obtain ⟨x679,hx679,h⟩:=h
       have qb674_b641:b641<w661.heap.size:=B661'.lt
       refine ec_anyN (by kernel_rfl) [[],[0],[0,1],[],[3],[0,1,2,3,4],[0,1,2,3,4],[0,1,2,3,4,5,6],[0,1,2,3,4,5,6,7],[0,1,2,3,4,5,6,7,8]] [34,35,36,37,38,39,40,41] (b641::[]) [7,9] [[b641],[b641]] [[7,8,9],[9]] [fun w'=>Blk w' b641 25 [.int .i64 d0.kind,.int .i64 d0.time,.int .i64 d0.node,.bool d0.dead,str d0.text,.slice A545 x544.length c546,.slice A549 x548.length c550,.int .u64 d0.flags],fun w'=>∃ A676 c677,Stb (b641::(b525::(b505::(b19::L)))) w' (fun w=>SlC (kI .i64) w A676 c677 x675)∧Blk w' b641 25 [.int .i64 d0.kind,.int .i64 d0.time,.int .i64 d0.node,.bool d0.dead,str d0.text,.slice A676 x675.length c677,.slice A549 x548.length c550,.int .u64 d0.flags],fun w'=>∃ A676 c677 A680 c681,Stb (b641::(b525::(b505::(b19::L)))) w' (fun w=>SlC (kI .i64) w A676 c677 x675)∧Stb (b641::(b525::(b505::(b19::L)))) w' (fun w=>SlC (kI .i64) w A680 c681 x679)∧Blk w' b641 25 [.int .i64 d0.kind,.int .i64 d0.time,.int .i64 d0.node,.bool d0.dead,str d0.text,.slice A676 x675.length c677,.slice A680 x679.length c681,.int .u64 d0.flags]] [fun v _=>v=(.pointer (some ⟨b641,5,none⟩):Value),fun v _=>v=(.slice A545 x544.length c546:Value),fun v w'=>∃ A676 c677,v=(.slice A676 x675.length c677:Value)∧Stb (b641::(b525::(b505::(b19::L)))) w' (fun w=>SlC (kI .i64) w A676 c677 x675),fun v _=>v=(.pointer (some ⟨b641,6,none⟩):Value),fun v _=>v=(.slice A549 x548.length c550:Value),fun v w'=>∃ A680 c681,v=(.slice A680 x679.length c681:Value)∧Stb (b641::(b525::(b505::(b19::L)))) w' (fun w=>SlC (kI .i64) w A680 c681 x679),fun v _=>v=(.pointer (some ⟨b641,5,none⟩):Value),fun _ _=>True,fun v _=>v=(.pointer (some ⟨b641,6,none⟩):Value),fun _ _=>True] (by kernel_rfl) (allM1 (fun m hm=>by first | exact hm | (simp at hm ⊢; simp [hm]; done) | simp_all) (allM1 (fun m hm=>by first | exact hm | (simp at hm ⊢; simp [hm]; done) | simp_all) (fun _ h=>by cases h))) ⟨fun _ _ _ _ _ h=>h,fun _ _ _ _ _ h=>h,fun _ v w' w'' F h=>by obtain ⟨A676,c677,hv,H678⟩:=h; exact ⟨A676,c677,hv,(H678.ex F)⟩,fun _ _ _ _ _ h=>h,fun _ _ _ _ _ h=>h,fun _ v w' w'' F h=>by obtain ⟨A680,c681,hv,H682⟩:=h; exact ⟨A680,c681,hv,(H682.ex F)⟩,fun _ _ _ _ _ h=>h,fun _ _ _ _ _ h=>h,fun _ _ _ _ _ h=>h,fun _ _ _ _ _ h=>h,trivial⟩ ⟨⟨fun _ _ _ _ _ h=>h,fun _ _ _ _ _ h=>h,fun _ v w' w'' F h=>by obtain ⟨A676,c677,hv,H678⟩:=h; exact ⟨A676,c677,hv,(H678.fr F (by simp))⟩,fun _ _ _ _ _ h=>h,fun _ _ _ _ _ h=>h,fun _ v w' w'' F h=>by obtain ⟨A680,c681,hv,H682⟩:=h; exact ⟨A680,c681,hv,(H682.fr F (by simp))⟩,fun _ _ _ _ _ h=>h,(fun h=>absurd h (by decide)),(fun h=>absurd h (by decide)),(fun h=>absurd h (by decide)),trivial⟩,⟨fun _ _ _ _ _ h=>h,fun _ _ _ _ _ h=>h,fun _ v w' w'' F h=>by obtain ⟨A676,c677,hv,H678⟩:=h; exact ⟨A676,c677,hv,(H678.fr F (by simp))⟩,fun _ _ _ _ _ h=>h,fun _ _ _ _ _ h=>h,fun _ v w' w'' F h=>by obtain ⟨A680,c681,hv,H682⟩:=h; exact ⟨A680,c681,hv,(H682.fr F (by simp))⟩,fun _ _ _ _ _ h=>h,fun _ _ _ _ _ h=>h,fun _ _ _ _ _ h=>h,(fun h=>absurd h (by decide)),trivial⟩,trivial⟩ ⟨fun w' w'' F h=>by have hB674_b641:=h; exact (hB674_b641.ex F),fun w' w'' F h=>by obtain ⟨A676,c677,H678,hB674_b641⟩:=h; exact ⟨A676,c677,(H678.ex F),(hB674_b641.ex F)⟩,fun w' w'' F h=>by obtain ⟨A676,c677,A680,c681,H678,H682,hB674_b641⟩:=h; exact ⟨A676,c677,A680,c681,(H678.ex F),(H682.ex F),(hB674_b641.ex F)⟩,trivial⟩ B661' ?_ ?_ ?_
       ·refine ⟨?_,?_,?_,?_,?_,?_,?_,?_,?_,?_,trivial⟩
        ·intro _ ρ w674o F674o hX hS hρ
         have F674o:=hX 7 rfl rfl
         have q8:ρ 8=.pointer (some ⟨b641,0,none⟩):=hρ 8 (by kernel_rfl)
         exact o_q (r_fa fld_api_Value_5 rfl q8) ⟨Fr.refl _ _,rfl⟩
        ·intro _ ρ w674o F674o hX hS hρ
         have F674o:=hX 7 rfl rfl
         have q34:ρ 34=.pointer (some ⟨b641,5,none⟩):=hS 0 (by decide) 34 rfl
         exact o_q (r_ld one_s_int q34 ((B661'.ex F674o).cell rfl)) ⟨Fr.refl _ _,rfl⟩
        ·intro _ ρ w674o F674o hX hS hρ
         have F674o:=hX 7 rfl rfl
         have E694:=E662.trans F674o
         have q35:ρ 35=.slice A545 x544.length c546:=hS 1 (by decide) 35 rfl
         refine o_call cf_slices_Clone_int (by simp only [List.map,ev,q35] <;> rfl) (slices_Clone_int_c x544 (H547.up (G668.trans (Fr.ext F674o)) sI (upc (.inr m650) (upc (.inl mH) (upc (.inl (mT mH)) (upc (.inl (mT (mT mH))) (fun m hm=>Or.inl (mT (mT (mT hm))))))))) (((((hL.fr E694).cons (B669.ex F674o).lt).cons (B670.ex F674o).lt).cons (B671.ex F674o).lt).cons (B661'.ex F674o).lt) hx675) rfl rfl ?_
         intro v' w' hv'
         obtain ⟨F,O,Nn⟩:=hv'
         obtain ⟨A676,c677,ev,H678⟩:=O.still
         subst ev
         exact eo_nil ⟨rfl,rfl,_,rfl,F,⟨A676,c677,rfl,H678⟩⟩
        ·intro _ ρ w674o F674o hX hS hρ
         have F674o:=hX 7 rfl rfl
         have q8:ρ 8=.pointer (some ⟨b641,0,none⟩):=hρ 8 (by kernel_rfl)
         exact o_q (r_fa fld_api_Value_6 rfl q8) ⟨Fr.refl _ _,rfl⟩
        ·intro _ ρ w674o F674o hX hS hρ
         have F674o:=hX 7 rfl rfl
         have q37:ρ 37=.pointer (some ⟨b641,6,none⟩):=hS 3 (by decide) 37 rfl
         exact o_q (r_ld one_s_int q37 ((B661'.ex F674o).cell rfl)) ⟨Fr.refl _ _,rfl⟩
        ·intro _ ρ w674o F674o hX hS hρ
         have F674o:=hX 7 rfl rfl
         have E716:=E662.trans F674o
         have q38:ρ 38=.slice A549 x548.length c550:=hS 4 (by decide) 38 rfl
         refine o_call cf_slices_Clone_int (by simp only [List.map,ev,q38] <;> rfl) (slices_Clone_int_c x548 (H551.up (G668.trans (Fr.ext F674o)) sI (upc (.inr m650) (upc (.inl mH) (upc (.inl (mT mH)) (upc (.inl (mT (mT mH))) (fun m hm=>Or.inl (mT (mT (mT hm))))))))) (((((hL.fr E716).cons (B669.ex F674o).lt).cons (B670.ex F674o).lt).cons (B671.ex F674o).lt).cons (B661'.ex F674o).lt) hx679) rfl rfl ?_
         intro v' w' hv'
         obtain ⟨F,O,Nn⟩:=hv'
         obtain ⟨A680,c681,ev,H682⟩:=O.still
         subst ev
         exact eo_nil ⟨rfl,rfl,_,rfl,F,⟨A680,c681,rfl,H682⟩⟩
        ·intro _ ρ w674o F674o hX hS hρ
         have F674o:=hX 7 rfl rfl
         have q8:ρ 8=.pointer (some ⟨b641,0,none⟩):=hρ 8 (by kernel_rfl)
         exact o_q (r_fa fld_api_Value_5 rfl q8) ⟨Fr.refl _ _,rfl⟩
        ·intro hT; exact absurd hT (by decide)
        ·intro _ ρ w674o F674o hX hS hρ
         have q8:ρ 8=.pointer (some ⟨b641,0,none⟩):=hρ 8 (by kernel_rfl)
         exact o_q (r_fa fld_api_Value_6 rfl q8) ⟨Fr.refl _ _,rfl⟩
        ·intro hT; exact absurd hT (by decide)
       ·refine ⟨⟨_,rfl,?_⟩,⟨_,rfl,?_⟩,trivial⟩
        ·intro ρ w674o F674o hX hI hS hρ
         have F674o:=hX rfl
         have hB674_b641:=hI
         obtain ⟨A676,c677,q36,H678⟩:=hS 2 (by decide) 36 rfl
         have q40:ρ 40=.pointer (some ⟨b641,5,none⟩):=hS 6 (by decide) 40 rfl
         refine o_store (show ev ρ _=_ from q40) hB674_b641 (vs:=[.slice A676 x675.length c677]) (congrArg Value.cells q36) sz_s_int rfl rfl rfl ?_
         intro w' F B2
         exact eo_nil ⟨rfl,rfl,undef,rfl,F,⟨A676,c677,(H678.fr F (by simp)),B2⟩,trivial⟩
        ·intro ρ w674o F674o hX hI hS hρ
         obtain ⟨A676,c677,H678,hB674_b641⟩:=hI
         obtain ⟨A680,c681,q39,H682⟩:=hS 5 (by decide) 39 rfl
         have q41:ρ 41=.pointer (some ⟨b641,6,none⟩):=hS 8 (by decide) 41 rfl
         refine o_store (show ev ρ _=_ from q41) hB674_b641 (vs:=[.slice A680 x679.length c681]) (congrArg Value.cells q39) sz_s_int rfl rfl rfl ?_
         intro w' F B2
         exact eo_nil ⟨rfl,rfl,undef,rfl,F,⟨A676,c677,A680,c681,(H678.fr F (by simp)),(H682.fr F (by simp)),B2⟩,trivial⟩
       ·intro ρ w674 F674 hI hS hρ
        obtain ⟨A676,c677,A680,c681,H678,H682,hB674_b641⟩:=hI
        obtain ⟨ρ',rfl⟩:∃ ρ',ρ=envs (ovr [34,35,36,37,38,39,40,41] ρ' _) []:=⟨ρ,ovr_self hρ trivial⟩
        have E748:Ext w w674:=Ext.st E662 F674 (upc n641 (fun m hm=>by cases hm))
        have B755:=B669.fr F674 (fun hm=>(show ∀ m∈_,m≠b19 from (upc (by omega) (fun m hm=>by cases hm))) _ hm rfl)
        have Z674:=Fr.refl (b641::(b525::(b505::(b19::L)))) w674
        refine sq_n ?_
        refine ec_sr ?_
        refine o_w (v:=.agg #[.int .i64 d0.kind,.int .i64 d0.time,.int .i64 d0.node,.bool d0.dead,str d0.text,.slice A676 x675.length c677,.slice A680 x679.length c681,.int .u64 d0.flags]) (r_lda agg_api_Value rfl (vs:=[.int .i64 d0.kind,.int .i64 d0.time,.int .i64 d0.node,.bool d0.dead,str d0.text,.slice A676 x675.length c677,.slice A680 x679.length c681,.int .u64 d0.flags]) rfl (hB674_b641.part (n:=8) rfl)) ?_
        refine o_store rfl B755 (vs:=[.int .i64 d0.kind,.int .i64 d0.time,.int .i64 d0.node,.bool d0.dead,str d0.text,.slice A676 x675.length c677,.slice A680 x679.length c681,.int .u64 d0.flags]) rfl sz_api_Value rfl rfl rfl ?_
        intro w758 F758 B758
        have E759:=Ext.st E748 F758 (by simp; omega)
        have G766:Fr (b641::(b525::(b505::(b19::L)))) w674 w758:=Z674.stp F758 (upc (.inl (mT (mT (mT mH)))) (fun m hm=>by cases hm))
        have B758':Blk w758 b19 _ [.int .i64 d0.kind,.int .i64 d0.time,.int .i64 d0.node,.bool d0.dead,str d0.text,.slice A676 x675.length c677,.slice A680 x679.length c681,.int .u64 d0.flags]:=B758
        refine o_w (v:=.int .i64 0) (r_asg rfl) ?_
        refine eo_nil_sq ?_
        refine ec_ret ?_
        subst h
        exact (endr2 (rv_a rfl (agg_api_Value) B758' (vs:=[.int .i64 d0.kind,.int .i64 d0.time,.int .i64 d0.node,.bool d0.dead,str d0.text,.slice A676 x675.length c677,.slice A680 x679.length c681,.int .u64 d0.flags]) rfl rfl) (rv_t rfl) ⟨_,rfl,E759,_,rfl,(kVal_mk (d:=(⟨d0.kind,d0.time,d0.node,d0.dead,d0.text,x675,x679,d0.flags⟩:Val)) (H678.up G766 sI (fun m hm=>Or.inl (mT (mT (mT (mT hm)))))) (H682.up G766 sI (fun m hm=>Or.inl (mT (mT (mT (mT hm)))))))⟩)
     ·replace h:=h.2 hc498
      refine ec_sr ?_
      refine o_w (v:=.bool (d0.kind==3)) (r_int rfl rfl rfl) ?_
      refine o_w (v:=.bool (d0.kind==3)) (r_asg rfl) ?_
      refine eo_nil_sq ?_
      refine ec_cond rfl (fun hc770=>?_) (fun hc770=>?_)
      ·replace h:=h.1 hc770
       refine ec_sr ?_
       refine o_w (v:=.agg #[]) (r_build bld_value_flags (vs:=[]) (cells:=[]) rfl rfl) ?_
       refine o_w (v:=.iface 55 (.agg #[])) (r_mkif conc_value_flags rfl) ?_
       refine o_w (v:=.iface 55 (.agg #[])) (r_asg rfl) ?_
       refine o_w (v:=.bool true) (r_asg rfl) ?_
       refine eo_nil_sq ?_
       refine ec_ret ?_
       refine blk_ret ?_
       refine sq_ret ?_
       refine end2 (v:=.iface 55 (.agg #[])) (x:=.bool true) rfl rfl ⟨_,rfl,?_⟩
       refine o_w (v:=.tuple #[.iface 55 (.agg #[]),.bool true]) (r_mov rfl) ?_
       refine o_w (v:=.iface 55 (.agg #[])) (r_ext rfl rfl) ?_
       refine o_w (v:=.bool true) (r_ext rfl rfl) ?_
       refine o_w (v:=.iface 55 (.agg #[])) (r_asg rfl) ?_
       refine o_w (v:=.bool true) (r_asg rfl) ?_
       refine eo_r ?_
       refine o_w (v:=.iface 55 (.agg #[])) (r_mov rfl) ?_
       refine o_w (v:=.agg (cVal d0 A1 c2 A4 c5).toArray) (r_lda agg_api_Value rfl (vs:=(cVal d0 A1 c2 A4 c5)) rfl ((S13.fr (((G18.trans (Fr.ext F19)).trans (Fr.ext F27)).trans (Fr.ext F39)) sI).now.part (n:=8) rfl)) ?_
       refine o_w (v:=.agg (cVal d1 A7 c8 A10 c11).toArray) (r_lda agg_api_Value rfl (vs:=(cVal d1 A7 c8 A10 c11)) rfl ((S15.fr ((G26.trans (Fr.ext F27)).trans (Fr.ext F39)) sI).now.part (n:=8) rfl)) ?_
       refine o_inlI (vs:=[.agg (cVal d0 A1 c2 A4 c5).toArray,.agg (cVal d1 A7 c8 A10 c11).toArray]) mf_value_flags_ouroboros_value_join rfl rfl rfl rfl ?_
       refine calls_ec Try.func69 rfl rfl rfl ?_
       refine ec_sr ?_
       refine o_box (cs:=[]) rfl rfl rfl ?_
       intro b771 w771 e771 F771 B771
       have E772:=E40.trans F771
       refine o_box (cs:=(cVal d0 A1 c2 A4 c5)) rfl rfl rfl ?_
       intro b777 w777 e777 F777 B777
       have n777:w.heap.size≤b777:=by rw [e777]; exact E772.size
       have q778:b19<b777:=by rw [e777]; exact (((B19.ex F27).ex F39).ex F771).lt
       have m779:w.heap.size≤b777:=by rw [e777]; exact (G41.trans (Fr.ext F771)).size
       have E783:=E772.trans F777
       refine o_box (cs:=(cVal d1 A7 c8 A10 c11)) rfl rfl rfl ?_
       intro b789 w789 e789 F789 B789
       have S789:=B789.stb (nin (((hL.fr E783).cons ((((B19.ex F27).ex F39).ex F771).ex F777).lt).cons B777.lt) e789)
       have E790:=E783.trans F789
       refine o_alloc zero_api_Value rfl rfl rfl ?_
       intro b797 w797 e797 F797 B797
       have n797:w.heap.size≤b797:=by rw [e797]; exact E790.size
       have q798:b19<b797:=by rw [e797]; exact (((((B19.ex F27).ex F39).ex F771).ex F777).ex F789).lt
       have q799:b777<b797:=by rw [e797]; exact (B777.ex F789).lt
       have m800:w.heap.size≤b797:=by rw [e797]; exact (((G41.trans (Fr.ext F771)).trans (Fr.ext F777)).trans (Fr.ext F789)).size
       have E805:=E790.trans F797
       have G806:=(((G41.trans (Fr.ext F771)).trans (Fr.ext F777)).trans (Fr.ext F789)).trans (Fr.ext F797)
       have G810:Fr (b777::(b19::L)) w789 w797:=Fr.ext F797
       refine eo_r ?_
       refine o_w (v:=.pointer (some ⟨b777,7,none⟩)) (r_fa fld_api_Value_7 rfl rfl) ?_
       refine o_w (v:=.int .u64 d0.flags) (r_ld one_uint64 rfl (((B777.ex F789).ex F797).cell rfl)) ?_
       refine o_w (v:=.pointer (some ⟨b789,7,none⟩)) (r_fa fld_api_Value_7 rfl rfl) ?_
       refine o_w (v:=.int .u64 d1.flags) (r_ld one_uint64 rfl ((S789.fr G810 sI).now.cell rfl)) ?_
       refine o_w (v:=.int .u64 (IntKind.u64.wrap ((BitVec.ofInt IntKind.u64.bits d0.flags ||| BitVec.ofInt IntKind.u64.bits d1.flags).toNat:Int))) (r_int rfl rfl rfl) ?_
       refine o_w (v:=.pointer (some ⟨b777,7,none⟩)) (r_fa fld_api_Value_7 rfl rfl) ?_
       refine o_store rfl ((B777.ex F789).ex F797) (vs:=[.int .u64 (IntKind.u64.wrap ((BitVec.ofInt IntKind.u64.bits d0.flags ||| BitVec.ofInt IntKind.u64.bits d1.flags).toNat:Int))]) rfl sz_uint64 rfl rfl rfl ?_
       intro w813 F813 B813
       have E814:=Ext.st E805 F813 (by simp; omega)
       have G815:Fr L w w813:=G806.stp F813 (upc (.inr m779) (fun m hm=>by cases hm))
       have B820:=((((((B19.ex F27).ex F39).ex F771).ex F777).ex F789).ex F797).fr F813 (by simp; omega)
       have B821:=B797.fr F813 (by simp; omega)
       have B813':Blk w813 b777 _ [.int .i64 d0.kind,.int .i64 d0.time,.int .i64 d0.node,.bool d0.dead,str d0.text,.slice A1 d0.plus.length c2,.slice A4 d0.minus.length c5,.int .u64 (IntKind.u64.wrap ((BitVec.ofInt IntKind.u64.bits d0.flags ||| BitVec.ofInt IntKind.u64.bits d1.flags).toNat:Int))]:=B813
       refine eo_r ?_
       refine o_w (v:=.agg #[.int .i64 d0.kind,.int .i64 d0.time,.int .i64 d0.node,.bool d0.dead,str d0.text,.slice A1 d0.plus.length c2,.slice A4 d0.minus.length c5,.int .u64 (IntKind.u64.wrap ((BitVec.ofInt IntKind.u64.bits d0.flags ||| BitVec.ofInt IntKind.u64.bits d1.flags).toNat:Int))]) (r_lda agg_api_Value rfl (vs:=[.int .i64 d0.kind,.int .i64 d0.time,.int .i64 d0.node,.bool d0.dead,str d0.text,.slice A1 d0.plus.length c2,.slice A4 d0.minus.length c5,.int .u64 (IntKind.u64.wrap ((BitVec.ofInt IntKind.u64.bits d0.flags ||| BitVec.ofInt IntKind.u64.bits d1.flags).toNat:Int))]) rfl (B813'.part (n:=8) rfl)) ?_
       refine o_store rfl B821 (vs:=[.int .i64 d0.kind,.int .i64 d0.time,.int .i64 d0.node,.bool d0.dead,str d0.text,.slice A1 d0.plus.length c2,.slice A4 d0.minus.length c5,.int .u64 (IntKind.u64.wrap ((BitVec.ofInt IntKind.u64.bits d0.flags ||| BitVec.ofInt IntKind.u64.bits d1.flags).toNat:Int))]) rfl sz_api_Value rfl rfl rfl ?_
       intro w822 F822 B822
       have E823:=Ext.st E814 F822 (by simp; omega)
       have G824:Fr L w w822:=G815.stp F822 (upc (.inr m800) (fun m hm=>by cases hm))
       have B829:=B820.fr F822 (by simp; omega)
       have B830:=B813'.fr F822 (by simp; omega)
       have B822':Blk w822 b797 _ [.int .i64 d0.kind,.int .i64 d0.time,.int .i64 d0.node,.bool d0.dead,str d0.text,.slice A1 d0.plus.length c2,.slice A4 d0.minus.length c5,.int .u64 (IntKind.u64.wrap ((BitVec.ofInt IntKind.u64.bits d0.flags ||| BitVec.ofInt IntKind.u64.bits d1.flags).toNat:Int))]:=B822
       refine eo_nil_sq ?_
       refine ec_ret ?_
       refine endr1 (v:=.agg #[.int .i64 d0.kind,.int .i64 d0.time,.int .i64 d0.node,.bool d0.dead,str d0.text,.slice A1 d0.plus.length c2,.slice A4 d0.minus.length c5,.int .u64 (IntKind.u64.wrap ((BitVec.ofInt IntKind.u64.bits d0.flags ||| BitVec.ofInt IntKind.u64.bits d1.flags).toNat:Int))]) (rv_a rfl (agg_api_Value) B822' (vs:=[.int .i64 d0.kind,.int .i64 d0.time,.int .i64 d0.node,.bool d0.dead,str d0.text,.slice A1 d0.plus.length c2,.slice A4 d0.minus.length c5,.int .u64 (IntKind.u64.wrap ((BitVec.ofInt IntKind.u64.bits d0.flags ||| BitVec.ofInt IntKind.u64.bits d1.flags).toNat:Int))]) rfl rfl) ⟨_,rfl,?_⟩
       refine o_alloc zero_api_Value rfl rfl rfl ?_
       intro b831 w831 e831 F831 B831
       have n831:w.heap.size≤b831:=by rw [e831]; exact E823.size
       have q832:b19<b831:=by rw [e831]; exact B829.lt
       have q833:b777<b831:=by rw [e831]; exact B830.lt
       have q834:b797<b831:=by rw [e831]; exact B822'.lt
       have m835:w.heap.size≤b831:=by rw [e831]; exact G824.size
       have E840:=E823.trans F831
       refine o_store rfl B831 (vs:=[.int .i64 d0.kind,.int .i64 d0.time,.int .i64 d0.node,.bool d0.dead,str d0.text,.slice A1 d0.plus.length c2,.slice A4 d0.minus.length c5,.int .u64 (IntKind.u64.wrap ((BitVec.ofInt IntKind.u64.bits d0.flags ||| BitVec.ofInt IntKind.u64.bits d1.flags).toNat:Int))]) rfl sz_api_Value rfl rfl rfl ?_
       intro w849 F849 B849
       have E850:=Ext.st E840 F849 (by simp; omega)
       have G851:Fr L w w849:=(G824.trans (Fr.ext F831)).stp F849 (upc (.inr m835) (fun m hm=>by cases hm))
       have B856:=(B829.ex F831).fr F849 (by simp; omega)
       have B857:=(B830.ex F831).fr F849 (by simp; omega)
       have B858:=(B822'.ex F831).fr F849 (by simp; omega)
       have B849':Blk w849 b831 _ [.int .i64 d0.kind,.int .i64 d0.time,.int .i64 d0.node,.bool d0.dead,str d0.text,.slice A1 d0.plus.length c2,.slice A4 d0.minus.length c5,.int .u64 (IntKind.u64.wrap ((BitVec.ofInt IntKind.u64.bits d0.flags ||| BitVec.ofInt IntKind.u64.bits d1.flags).toNat:Int))]:=B849
       refine eo_nil_sq ?_
       refine ec_seq ?_
       obtain ⟨x862,hx862,h⟩:=h
       obtain ⟨x866,hx866,h⟩:=h
       have qb861_b831:b831<w849.heap.size:=B849'.lt
       refine ec_anyN (by kernel_rfl) [[],[0],[0,1],[],[3],[0,1,2,3,4],[0,1,2,3,4],[0,1,2,3,4,5,6],[0,1,2,3,4,5,6,7],[0,1,2,3,4,5,6,7,8]] [34,35,36,37,38,39,40,41] (b831::[]) [7,9] [[b831],[b831]] [[7,8,9],[9]] [fun w'=>Blk w' b831 25 [.int .i64 d0.kind,.int .i64 d0.time,.int .i64 d0.node,.bool d0.dead,str d0.text,.slice A1 d0.plus.length c2,.slice A4 d0.minus.length c5,.int .u64 (IntKind.u64.wrap ((BitVec.ofInt IntKind.u64.bits d0.flags ||| BitVec.ofInt IntKind.u64.bits d1.flags).toNat:Int))],fun w'=>∃ A863 c864,Stb (b831::(b797::(b777::(b19::L)))) w' (fun w=>SlC (kI .i64) w A863 c864 x862)∧Blk w' b831 25 [.int .i64 d0.kind,.int .i64 d0.time,.int .i64 d0.node,.bool d0.dead,str d0.text,.slice A863 x862.length c864,.slice A4 d0.minus.length c5,.int .u64 (IntKind.u64.wrap ((BitVec.ofInt IntKind.u64.bits d0.flags ||| BitVec.ofInt IntKind.u64.bits d1.flags).toNat:Int))],fun w'=>∃ A863 c864 A867 c868,Stb (b831::(b797::(b777::(b19::L)))) w' (fun w=>SlC (kI .i64) w A863 c864 x862)∧Stb (b831::(b797::(b777::(b19::L)))) w' (fun w=>SlC (kI .i64) w A867 c868 x866)∧Blk w' b831 25 [.int .i64 d0.kind,.int .i64 d0.time,.int .i64 d0.node,.bool d0.dead,str d0.text,.slice A863 x862.length c864,.slice A867 x866.length c868,.int .u64 (IntKind.u64.wrap ((BitVec.ofInt IntKind.u64.bits d0.flags ||| BitVec.ofInt IntKind.u64.bits d1.flags).toNat:Int))]] [fun v _=>v=(.pointer (some ⟨b831,5,none⟩):Value),fun v _=>v=(.slice A1 d0.plus.length c2:Value),fun v w'=>∃ A863 c864,v=(.slice A863 x862.length c864:Value)∧Stb (b831::(b797::(b777::(b19::L)))) w' (fun w=>SlC (kI .i64) w A863 c864 x862),fun v _=>v=(.pointer (some ⟨b831,6,none⟩):Value),fun v _=>v=(.slice A4 d0.minus.length c5:Value),fun v w'=>∃ A867 c868,v=(.slice A867 x866.length c868:Value)∧Stb (b831::(b797::(b777::(b19::L)))) w' (fun w=>SlC (kI .i64) w A867 c868 x866),fun v _=>v=(.pointer (some ⟨b831,5,none⟩):Value),fun _ _=>True,fun v _=>v=(.pointer (some ⟨b831,6,none⟩):Value),fun _ _=>True] (by kernel_rfl) (allM1 (fun m hm=>by first | exact hm | (simp at hm ⊢; simp [hm]; done) | simp_all) (allM1 (fun m hm=>by first | exact hm | (simp at hm ⊢; simp [hm]; done) | simp_all) (fun _ h=>by cases h))) ⟨fun _ _ _ _ _ h=>h,fun _ _ _ _ _ h=>h,fun _ v w' w'' F h=>by obtain ⟨A863,c864,hv,H865⟩:=h; exact ⟨A863,c864,hv,(H865.ex F)⟩,fun _ _ _ _ _ h=>h,fun _ _ _ _ _ h=>h,fun _ v w' w'' F h=>by obtain ⟨A867,c868,hv,H869⟩:=h; exact ⟨A867,c868,hv,(H869.ex F)⟩,fun _ _ _ _ _ h=>h,fun _ _ _ _ _ h=>h,fun _ _ _ _ _ h=>h,fun _ _ _ _ _ h=>h,trivial⟩ ⟨⟨fun _ _ _ _ _ h=>h,fun _ _ _ _ _ h=>h,fun _ v w' w'' F h=>by obtain ⟨A863,c864,hv,H865⟩:=h; exact ⟨A863,c864,hv,(H865.fr F (by simp))⟩,fun _ _ _ _ _ h=>h,fun _ _ _ _ _ h=>h,fun _ v w' w'' F h=>by obtain ⟨A867,c868,hv,H869⟩:=h; exact ⟨A867,c868,hv,(H869.fr F (by simp))⟩,fun _ _ _ _ _ h=>h,(fun h=>absurd h (by decide)),(fun h=>absurd h (by decide)),(fun h=>absurd h (by decide)),trivial⟩,⟨fun _ _ _ _ _ h=>h,fun _ _ _ _ _ h=>h,fun _ v w' w'' F h=>by obtain ⟨A863,c864,hv,H865⟩:=h; exact ⟨A863,c864,hv,(H865.fr F (by simp))⟩,fun _ _ _ _ _ h=>h,fun _ _ _ _ _ h=>h,fun _ v w' w'' F h=>by obtain ⟨A867,c868,hv,H869⟩:=h; exact ⟨A867,c868,hv,(H869.fr F (by simp))⟩,fun _ _ _ _ _ h=>h,fun _ _ _ _ _ h=>h,fun _ _ _ _ _ h=>h,(fun h=>absurd h (by decide)),trivial⟩,trivial⟩ ⟨fun w' w'' F h=>by have hB861_b831:=h; exact (hB861_b831.ex F),fun w' w'' F h=>by obtain ⟨A863,c864,H865,hB861_b831⟩:=h; exact ⟨A863,c864,(H865.ex F),(hB861_b831.ex F)⟩,fun w' w'' F h=>by obtain ⟨A863,c864,A867,c868,H865,H869,hB861_b831⟩:=h; exact ⟨A863,c864,A867,c868,(H865.ex F),(H869.ex F),(hB861_b831.ex F)⟩,trivial⟩ B849' ?_ ?_ ?_
       ·refine ⟨?_,?_,?_,?_,?_,?_,?_,?_,?_,?_,trivial⟩
        ·intro _ ρ w861o F861o hX hS hρ
         have F861o:=hX 7 rfl rfl
         have q8:ρ 8=.pointer (some ⟨b831,0,none⟩):=hρ 8 (by kernel_rfl)
         exact o_q (r_fa fld_api_Value_5 rfl q8) ⟨Fr.refl _ _,rfl⟩
        ·intro _ ρ w861o F861o hX hS hρ
         have F861o:=hX 7 rfl rfl
         have q34:ρ 34=.pointer (some ⟨b831,5,none⟩):=hS 0 (by decide) 34 rfl
         exact o_q (r_ld one_s_int q34 ((B849'.ex F861o).cell rfl)) ⟨Fr.refl _ _,rfl⟩
        ·intro _ ρ w861o F861o hX hS hρ
         have F861o:=hX 7 rfl rfl
         have E880:=E850.trans F861o
         have q35:ρ 35=.slice A1 d0.plus.length c2:=hS 1 (by decide) 35 rfl
         refine o_call cf_slices_Clone_int (by simp only [List.map,ev,q35] <;> rfl) (slices_Clone_int_c d0.plus (H3.up (G851.trans (Fr.ext F861o)) sI (upc (.inr m835) (upc (.inr m800) (upc (.inr m779) (upc (.inr m20) (fun _ h=>.inl h)))))) (((((hL.fr E880).cons (B856.ex F861o).lt).cons (B857.ex F861o).lt).cons (B858.ex F861o).lt).cons (B849'.ex F861o).lt) hx862) rfl rfl ?_
         intro v' w' hv'
         obtain ⟨F,O,Nn⟩:=hv'
         obtain ⟨A863,c864,ev,H865⟩:=O.still
         subst ev
         exact eo_nil ⟨rfl,rfl,_,rfl,F,⟨A863,c864,rfl,H865⟩⟩
        ·intro _ ρ w861o F861o hX hS hρ
         have F861o:=hX 7 rfl rfl
         have q8:ρ 8=.pointer (some ⟨b831,0,none⟩):=hρ 8 (by kernel_rfl)
         exact o_q (r_fa fld_api_Value_6 rfl q8) ⟨Fr.refl _ _,rfl⟩
        ·intro _ ρ w861o F861o hX hS hρ
         have F861o:=hX 7 rfl rfl
         have q37:ρ 37=.pointer (some ⟨b831,6,none⟩):=hS 3 (by decide) 37 rfl
         exact o_q (r_ld one_s_int q37 ((B849'.ex F861o).cell rfl)) ⟨Fr.refl _ _,rfl⟩
        ·intro _ ρ w861o F861o hX hS hρ
         have F861o:=hX 7 rfl rfl
         have E900:=E850.trans F861o
         have q38:ρ 38=.slice A4 d0.minus.length c5:=hS 4 (by decide) 38 rfl
         refine o_call cf_slices_Clone_int (by simp only [List.map,ev,q38] <;> rfl) (slices_Clone_int_c d0.minus (H6.up (G851.trans (Fr.ext F861o)) sI (upc (.inr m835) (upc (.inr m800) (upc (.inr m779) (upc (.inr m20) (fun _ h=>.inl h)))))) (((((hL.fr E900).cons (B856.ex F861o).lt).cons (B857.ex F861o).lt).cons (B858.ex F861o).lt).cons (B849'.ex F861o).lt) hx866) rfl rfl ?_
         intro v' w' hv'
         obtain ⟨F,O,Nn⟩:=hv'
         obtain ⟨A867,c868,ev,H869⟩:=O.still
         subst ev
         exact eo_nil ⟨rfl,rfl,_,rfl,F,⟨A867,c868,rfl,H869⟩⟩
        ·intro _ ρ w861o F861o hX hS hρ
         have F861o:=hX 7 rfl rfl
         have q8:ρ 8=.pointer (some ⟨b831,0,none⟩):=hρ 8 (by kernel_rfl)
         exact o_q (r_fa fld_api_Value_5 rfl q8) ⟨Fr.refl _ _,rfl⟩
        ·intro hT; exact absurd hT (by decide)
        ·intro _ ρ w861o F861o hX hS hρ
         have q8:ρ 8=.pointer (some ⟨b831,0,none⟩):=hρ 8 (by kernel_rfl)
         exact o_q (r_fa fld_api_Value_6 rfl q8) ⟨Fr.refl _ _,rfl⟩
        ·intro hT; exact absurd hT (by decide)
       ·refine ⟨⟨_,rfl,?_⟩,⟨_,rfl,?_⟩,trivial⟩
        ·intro ρ w861o F861o hX hI hS hρ
         have F861o:=hX rfl
         have hB861_b831:=hI
         obtain ⟨A863,c864,q36,H865⟩:=hS 2 (by decide) 36 rfl
         have q40:ρ 40=.pointer (some ⟨b831,5,none⟩):=hS 6 (by decide) 40 rfl
         refine o_store (show ev ρ _=_ from q40) hB861_b831 (vs:=[.slice A863 x862.length c864]) (congrArg Value.cells q36) sz_s_int rfl rfl rfl ?_
         intro w' F B2
         exact eo_nil ⟨rfl,rfl,undef,rfl,F,⟨A863,c864,(H865.fr F (by simp)),B2⟩,trivial⟩
        ·intro ρ w861o F861o hX hI hS hρ
         obtain ⟨A863,c864,H865,hB861_b831⟩:=hI
         obtain ⟨A867,c868,q39,H869⟩:=hS 5 (by decide) 39 rfl
         have q41:ρ 41=.pointer (some ⟨b831,6,none⟩):=hS 8 (by decide) 41 rfl
         refine o_store (show ev ρ _=_ from q41) hB861_b831 (vs:=[.slice A867 x866.length c868]) (congrArg Value.cells q39) sz_s_int rfl rfl rfl ?_
         intro w' F B2
         exact eo_nil ⟨rfl,rfl,undef,rfl,F,⟨A863,c864,A867,c868,(H865.fr F (by simp)),(H869.fr F (by simp)),B2⟩,trivial⟩
       ·intro ρ w861 F861 hI hS hρ
        obtain ⟨A863,c864,A867,c868,H865,H869,hB861_b831⟩:=hI
        obtain ⟨ρ',rfl⟩:∃ ρ',ρ=envs (ovr [34,35,36,37,38,39,40,41] ρ' _) []:=⟨ρ,ovr_self hρ trivial⟩
        have E929:Ext w w861:=Ext.st E850 F861 (upc n831 (fun m hm=>by cases hm))
        have B935:=B856.fr F861 (fun hm=>(show ∀ m∈_,m≠b19 from (upc (by omega) (fun m hm=>by cases hm))) _ hm rfl)
        have Z861:=Fr.refl (b831::(b797::(b777::(b19::L)))) w861
        refine sq_n ?_
        refine ec_sr ?_
        refine o_w (v:=.agg #[.int .i64 d0.kind,.int .i64 d0.time,.int .i64 d0.node,.bool d0.dead,str d0.text,.slice A863 x862.length c864,.slice A867 x866.length c868,.int .u64 (IntKind.u64.wrap ((BitVec.ofInt IntKind.u64.bits d0.flags ||| BitVec.ofInt IntKind.u64.bits d1.flags).toNat:Int))]) (r_lda agg_api_Value rfl (vs:=[.int .i64 d0.kind,.int .i64 d0.time,.int .i64 d0.node,.bool d0.dead,str d0.text,.slice A863 x862.length c864,.slice A867 x866.length c868,.int .u64 (IntKind.u64.wrap ((BitVec.ofInt IntKind.u64.bits d0.flags ||| BitVec.ofInt IntKind.u64.bits d1.flags).toNat:Int))]) rfl (hB861_b831.part (n:=8) rfl)) ?_
        refine o_store rfl B935 (vs:=[.int .i64 d0.kind,.int .i64 d0.time,.int .i64 d0.node,.bool d0.dead,str d0.text,.slice A863 x862.length c864,.slice A867 x866.length c868,.int .u64 (IntKind.u64.wrap ((BitVec.ofInt IntKind.u64.bits d0.flags ||| BitVec.ofInt IntKind.u64.bits d1.flags).toNat:Int))]) rfl sz_api_Value rfl rfl rfl ?_
        intro w938 F938 B938
        have E939:=Ext.st E929 F938 (by simp; omega)
        have G945:Fr (b831::(b797::(b777::(b19::L)))) w861 w938:=Z861.stp F938 (upc (.inl (mT (mT (mT mH)))) (fun m hm=>by cases hm))
        have B938':Blk w938 b19 _ [.int .i64 d0.kind,.int .i64 d0.time,.int .i64 d0.node,.bool d0.dead,str d0.text,.slice A863 x862.length c864,.slice A867 x866.length c868,.int .u64 (IntKind.u64.wrap ((BitVec.ofInt IntKind.u64.bits d0.flags ||| BitVec.ofInt IntKind.u64.bits d1.flags).toNat:Int))]:=B938
        refine o_w (v:=.int .i64 0) (r_asg rfl) ?_
        refine eo_nil_sq ?_
        refine ec_ret ?_
        subst h
        exact (endr2 (rv_a rfl (agg_api_Value) B938' (vs:=[.int .i64 d0.kind,.int .i64 d0.time,.int .i64 d0.node,.bool d0.dead,str d0.text,.slice A863 x862.length c864,.slice A867 x866.length c868,.int .u64 (IntKind.u64.wrap ((BitVec.ofInt IntKind.u64.bits d0.flags ||| BitVec.ofInt IntKind.u64.bits d1.flags).toNat:Int))]) rfl rfl) (rv_t rfl) ⟨_,rfl,E939,_,rfl,(kVal_mk (d:=(⟨d0.kind,d0.time,d0.node,d0.dead,d0.text,x862,x866,(IntKind.u64.wrap ((BitVec.ofInt IntKind.u64.bits d0.flags ||| BitVec.ofInt IntKind.u64.bits d1.flags).toNat:Int))⟩:Val)) (H865.up G945 sI (fun m hm=>Or.inl (mT (mT (mT (mT hm)))))) (H869.up G945 sI (fun m hm=>Or.inl (mT (mT (mT (mT hm)))))))⟩)
      ·replace h:=h.2 hc770
       refine ec_skip ?_
       refine blk_n ?_
       refine sq_n ?_
       refine ec_sr ?_
       refine o_w (v:=.nilIface) (r_asg rfl) ?_
       refine o_w (v:=.bool false) (r_asg rfl) ?_
       refine eo_nil_sq ?_
       refine ec_ret ?_
       refine end2 (v:=.nilIface) (x:=.bool false) rfl rfl ⟨_,rfl,?_⟩
       refine o_w (v:=.tuple #[.nilIface,.bool false]) (r_mov rfl) ?_
       refine o_w (v:=.nilIface) (r_ext rfl rfl) ?_
       refine o_w (v:=.bool false) (r_ext rfl rfl) ?_
       refine o_w (v:=.nilIface) (r_asg rfl) ?_
       refine o_w (v:=.bool false) (r_asg rfl) ?_
       refine eo_r ?_
       refine o_w (v:=.nilIface) (r_mov rfl) ?_
       refine o_w (v:=.agg (cVal d0 A1 c2 A4 c5).toArray) (r_lda agg_api_Value rfl (vs:=(cVal d0 A1 c2 A4 c5)) rfl ((S13.fr (((G18.trans (Fr.ext F19)).trans (Fr.ext F27)).trans (Fr.ext F39)) sI).now.part (n:=8) rfl)) ?_
       refine o_w (v:=.agg (cVal d1 A7 c8 A10 c11).toArray) (r_lda agg_api_Value rfl (vs:=(cVal d1 A7 c8 A10 c11)) rfl ((S15.fr ((G26.trans (Fr.ext F27)).trans (Fr.ext F39)) sI).now.part (n:=8) rfl)) ?_
       exact h.elim
def value_Below_raw (d0:Val) (d1:Val) (y:Bool):Prop :=
 ∃ x19,value_Join_raw d0 d1 x19∧(∃ x49,((x19.2==0)=true→value_Same_raw x19.1 d1 x49)∧(y=((x19.2==0)&&x49)))
set_option maxRecDepth 20000 in
set_option maxHeartbeats 4000000 in
theorem value_Below_c {L:List Nat} {w:World} {csP0:List Value} (d0:Val) (HP0:Stb L w (fun w=>kVal.r w csP0 d0)) {csP1:List Value} (d1:Val) (HP1:Stb L w (fun w=>kVal.r w csP1 d1)) (hL:Lt L w) {y:Bool} (h:value_Below_raw d0 d1 y) :
  Calls Try.prog 21 [.agg csP0.toArray,.agg csP1.toArray].toArray w (Ret fun v w'=>Ext w w'∧v=.bool y):=by
 obtain ⟨A1,c2,A4,c5,rfl,H3,H6⟩:=kVal_open HP0
 obtain ⟨A7,c8,A10,c11,rfl,H9,H12⟩:=kVal_open HP1
 unfold value_Below_raw at h
 refine calls_ec Try.func21 rfl rfl rfl ?_
 refine ec_sr ?_
 refine o_box (cs:=(cVal d0 A1 c2 A4 c5)) rfl rfl rfl ?_
 intro b13 w13 e13 F13 B13
 have S13:=B13.stb (nin hL e13)
 have G14:Fr L w w13:=Fr.ext F13
 refine o_box (cs:=(cVal d1 A7 c8 A10 c11)) rfl rfl rfl ?_
 intro b15 w15 e15 F15 B15
 have S15:=B15.stb (nin (hL.fr F13) e15)
 have E16:=F13.trans F15
 have G18:Fr L w13 w15:=Fr.ext F15
 refine o_w (v:=.bool false) (r_asg rfl) ?_
 refine eo_r ?_
 refine o_w (v:=.agg (cVal d0 A1 c2 A4 c5).toArray) (r_lda agg_api_Value rfl (vs:=(cVal d0 A1 c2 A4 c5)) rfl ((S13.fr G18 sI).now.part (n:=8) rfl)) ?_
 refine o_w (v:=.agg (cVal d1 A7 c8 A10 c11).toArray) (r_lda agg_api_Value rfl (vs:=(cVal d1 A7 c8 A10 c11)) rfl (S15.now.part (n:=8) rfl)) ?_
 obtain ⟨x19,hx19,h⟩:=h
 refine o_call cf_value_Join rfl (value_Join_c d0 (kVal_mk (d:=d0) (H3.fr (G14.trans (Fr.ext F15)) sI) (H6.fr (G14.trans (Fr.ext F15)) sI)) d1 (kVal_mk (d:=d1) (H9.fr (G14.trans (Fr.ext F15)) sI) (H12.fr (G14.trans (Fr.ext F15)) sI)) (hL.fr E16) hx19) rfl rfl ?_
 rintro _ w19 ⟨F19,cs20,rfl,H21⟩
 have E22:=E16.trans F19
 have G25:Fr L w15 w19:=Fr.ext F19
 obtain ⟨A26,c27,A29,c30,rfl,H28,H31⟩:=kVal_open H21
 refine o_w (v:=.tuple #[.agg (cVal x19.1 A26 c27 A29 c30).toArray,.int .i64 x19.2]) (r_mov rfl) ?_
 refine o_w (v:=.agg (cVal x19.1 A26 c27 A29 c30).toArray) (r_ext rfl rfl) ?_
 refine o_w (v:=.int .i64 x19.2) (r_ext rfl rfl) ?_
 refine o_alloc zero_api_Value rfl rfl rfl ?_
 intro b32 w32 e32 F32 B32
 have n32:w.heap.size≤b32:=by rw [e32]; exact E22.size
 have m33:w.heap.size≤b32:=by rw [e32]; exact ((G14.trans (Fr.ext F15)).trans (Fr.ext F19)).size
 have m35:w15.heap.size≤b32:=by rw [e32]; exact G25.size
 have m36:w19.heap.size≤b32:=Nat.le_of_eq e32.symm
 have E37:=E22.trans F32
 have G41:Fr L w19 w32:=Fr.ext F32
 refine o_store rfl B32 (vs:=(cVal x19.1 A26 c27 A29 c30)) rfl sz_api_Value rfl rfl rfl ?_
 intro w42 F42 B42
 have E43:=Ext.st E37 F42 (by simp; omega)
 have G44:Fr L w w42:=(((G14.trans (Fr.ext F15)).trans (Fr.ext F19)).trans (Fr.ext F32)).stp F42 (upc (.inr m33) (fun m hm=>by cases hm))
 have G46:Fr L w15 w42:=(G25.trans (Fr.ext F32)).stp F42 (upc (.inr m35) (fun m hm=>by cases hm))
 have G47:Fr L w19 w42:=G41.stp F42 (upc (.inr m36) (fun m hm=>by cases hm))
 have B42':Blk w42 b32 _ (cVal x19.1 A26 c27 A29 c30):=B42
 refine o_w (v:=.int .i64 x19.2) (r_asg rfl) ?_
 refine eo_r ?_
 refine o_w (v:=.int .i64 x19.2) (r_mov rfl) ?_
 refine o_w (v:=.bool (x19.2==0)) (r_int rfl rfl rfl) ?_
 refine o_w (v:=.bool (x19.2==0)) (r_mov rfl) ?_
 refine o_vg (v:=.agg (cVal x19.1 A26 c27 A29 c30).toArray) (want_ct (t:=15) rfl rfl) (fun hk=>(r_lda agg_api_Value rfl (vs:=(cVal x19.1 A26 c27 A29 c30)) rfl (B42'.part (n:=8) rfl))) rfl rfl ?_
 refine o_vg (v:=.agg (cVal d1 A7 c8 A10 c11).toArray) (want_ct (t:=15) rfl rfl) (fun hk=>(r_lda agg_api_Value rfl (vs:=(cVal d1 A7 c8 A10 c11)) rfl ((S15.fr G46 sI).now.part (n:=8) rfl))) rfl rfl ?_
 obtain ⟨x49,hx49,h⟩:=h
 refine o_callg (V:=.bool x49) cf_value_Same (want_ct (t:=15) rfl rfl) (fun hk=>(mapv2 (gdT hk) (gdT hk))) (fun hk=>(value_Same_c x19.1 (kVal_mk (d:=x19.1) (H28.up G47 sI (upc (.inr m36) (fun _ h=>.inl h))) (H31.up G47 sI (upc (.inr m36) (fun _ h=>.inl h)))) d1 (kVal_mk (d:=d1) (H9.up G44 sI (upc (.inr m33) (fun _ h=>.inl h))) (H12.up G44 sI (upc (.inr m33) (fun _ h=>.inl h)))) ((hL.fr E43).cons B42'.lt) (hx49 hk))) rfl ?_
 intro w49 F49
 have E50:=E43.trans F49
 refine o_w (v:=.bool ((x19.2==0)&&x49)) (r_pickAnd rfl (fun ht=>(gdT ht)) rfl) ?_
 refine o_w (v:=.bool ((x19.2==0)&&x49)) (r_asg rfl) ?_
 refine eo_nil_sq ?_
 refine ec_ret ?_
 subst h
 exact (end1 rfl ⟨_,rfl,E50,rfl⟩)
end Go.Proofs.Ytdojgmmpcdbeoaa
