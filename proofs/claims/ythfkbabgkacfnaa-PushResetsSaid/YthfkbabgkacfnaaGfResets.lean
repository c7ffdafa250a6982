/- The law PushResets: what it comes to. -/
import Derived.Test.YthfkbabgkacfnaaPx
namespace Go.Proofs.Ythfkbabgkacfnaa
open Go Go.RowKit
set_option linter.unusedVariables false
set_option linter.unusedSimpArgs false
def law17_PushResets_raw (d0:Buf) (d1:Arena) (d2:Int) (d3:Int) (d4:Int) (y:Bool):Prop :=
 ((!(worksV))=true→(y=false))∧((!(worksV))=false→(((!(!((fewB d0)&&(fewA d1))))=true→sma d1)∧(((((!((fewB d0)&&(fewA d1)))||((checkA d1) != (0:Int)))||((d1.slots.length:Int)==(0:Int)))=true→(y=(worksV)))∧((((!((fewB d0)&&(fewA d1)))||((checkA d1) != (0:Int)))||((d1.slots.length:Int)==(0:Int)))=false→((smB d0)∧((sma d1)∧(∃ x41,x41=(sendP d0 d1 (IntKind.i64.wrap ((Int.tmod (IntKind.i64.wrap d2) (8:Int)) + (1:Int))) (IntKind.i64.wrap ((Int.tmod (IntKind.i64.wrap d3) (4:Int)) + (1:Int))))∧((sml x41.1.entries)∧((x41.1.entries.length≤1000000)∧(∃ x70,x70=(heardP x41.1)∧((((!x41.2)||(!x70.2))=true→(y=(worksV)))∧(((!x41.2)||(!x70.2))=false→(((d1.slots.length:Int)==(0:Int))=false∧((0≤(Int.tmod (IntKind.i64.wrap d4) (d1.slots.length:Int))∧(Int.tmod (IntKind.i64.wrap d4) (d1.slots.length:Int))<(d1.slots.length:Int))∧(smB d0∧(sma d1∧(∃ x196,x196=(mendB d0 d1 (IntKind.i64.wrap ((Int.tmod (IntKind.i64.wrap d2) (8:Int)) + (1:Int))))∧(∃ x202,x202=(resetB x196)∧(smN x202∧(sma d1∧(∃ x206,x206=(noteB x202 d1 (IntKind.i64.wrap ((Int.tmod (IntKind.i64.wrap d2) (8:Int)) + (1:Int))) (nth d1.slots (Int.tmod (IntKind.i64.wrap d4) (d1.slots.length:Int))))∧(smB x206∧(sma d1∧(sml x70.1.entries∧(x70.1.entries.length≤1000000∧(∃ x318,x318=(doneP x206 d1 (IntKind.i64.wrap ((Int.tmod (IntKind.i64.wrap d2) (8:Int)) + (1:Int))) x70.1)∧(smB x318∧(y=((sameB x318 x206)&&((x206.names.length:Int)==(1:Int)))))))))))))))))))))))))))))))
set_option maxRecDepth 20000 in
set_option maxHeartbeats 4000000 in
theorem law17_PushResets_c {L:List Nat} {w:World} {csP0:List Value} (d0:Buf) (HP0:Stb L w (fun w=>kBuf.r w csP0 d0)) {csP1:List Value} (d1:Arena) (HP1:Stb L w (fun w=>kArena.r w csP1 d1)) (d2:Int) (d3:Int) (d4:Int) (hL:Lt L w) {y:Bool} (h:law17_PushResets_raw d0 d1 d2 d3 d4 y) :
  Calls Try.prog 6 [.agg csP0.toArray,.agg csP1.toArray,.int .u8 d2,.int .u8 d3,.int .u8 d4].toArray w (Ret fun v w'=>Ext w w'∧v=.bool y):=by
 obtain ⟨A1,c2,rfl,H3⟩:=kBuf_open HP0
 obtain ⟨A4,c5,A7,c8,rfl,H6,H9⟩:=kArena_open HP1
 unfold law17_PushResets_raw at h
 refine calls_ec Try.func6 rfl rfl rfl ?_
 refine ec_seq ?_
 refine ec_region ?_
 refine o_box (cs:=(cBuf d0 A1 c2)) rfl rfl rfl ?_
 intro b10 w10 e10 F10 B10
 have S10:=B10.stb (nin hL e10)
 have G11:Fr L w w10:=Fr.ext F10
 refine o_box (cs:=(cArena d1 A4 c5 A7 c8)) rfl rfl rfl ?_
 intro b12 w12 e12 F12 B12
 have S12:=B12.stb (nin (hL.fr F10) e12)
 have E13:=F10.trans F12
 have G15:Fr L w10 w12:=Fr.ext F12
 refine o_w (v:=.bool false) (r_asg rfl) ?_
 refine eo_nil_sq ?_
 refine ec_seq ?_
 refine ec_region ?_
 refine o_call cf_law17_works rfl (law17_works_c (hL.fr E13) (works17_ev)) rfl rfl ?_
 rintro _ w16 ⟨F16,rfl⟩
 have E17:=E13.trans F16
 have G20:Fr L w12 w16:=Fr.ext F16
 refine o_w (v:=.bool (worksV)) (r_asg rfl) ?_
 refine eo_nil_sq ?_
 iterate 2 refine ec_seq ?_
 refine ec_region ?_
 refine o_w (v:=.bool (worksV)) (r_mov rfl) ?_
 refine o_w (v:=.bool (!(worksV))) (r_not rfl) ?_
 refine eo_nil_sq ?_
 refine ec_cond rfl (fun hc21=>?_) (fun hc21=>?_)
 ·replace h:=h.1 hc21
  refine ec_seq ?_
  refine ec_region ?_
  refine o_w (v:=.bool false) (r_asg rfl) ?_
  refine eo_nil_sq ?_
  refine ec_ret ?_
  refine sq_ret ?_
  subst h
  exact (end1 rfl ⟨_,rfl,E17,rfl⟩)
 ·replace h:=h.2 hc21
  refine ec_skip ?_
  refine sq_n ?_
  refine ec_seq ?_
  refine ec_region ?_
  refine o_w (v:=.agg (cBuf d0 A1 c2).toArray) (r_lda agg_buffer_Buffer rfl (vs:=(cBuf d0 A1 c2)) rfl ((S10.fr (G15.trans (Fr.ext F16)) (fun _ h=>h)).now.part (n:=3) rfl)) ?_
  refine o_call cf_law16_Few rfl (law16_Few_c d0 (kBuf_mk (d:=d0) (H3.fr ((G11.trans (Fr.ext F12)).trans (Fr.ext F16)) (fun _ h=>h))) (hL.fr E17) (fewB_ev d0)) rfl rfl ?_
  rintro _ w23 ⟨F23,rfl⟩
  have E24:=E17.trans F23
  refine o_w (v:=.bool (fewB d0)) (r_mov rfl) ?_
  refine o_vg (v:=.agg (cArena d1 A4 c5 A7 c8).toArray) (want_ct (t:=25) rfl rfl) (fun hk=>(r_lda agg_api_Arena rfl (vs:=(cArena d1 A4 c5 A7 c8)) rfl ((S12.fr (G20.trans (Fr.ext F23)) (fun _ h=>h)).now.part (n:=3) rfl))) rfl rfl ?_
  refine o_callg (V:=.bool (fewA d1)) cf_law08_Few (want_ct (t:=25) rfl rfl) (fun hk=>(mapv1 (gdT hk))) (fun hk=>(law08_Few_c d1 (kArena_mk (d:=d1) (H6.fr (((G11.trans (Fr.ext F12)).trans (Fr.ext F16)).trans (Fr.ext F23)) (fun _ h=>h)) (H9.fr (((G11.trans (Fr.ext F12)).trans (Fr.ext F16)).trans (Fr.ext F23)) (fun _ h=>h))) (hL.fr E24) (fewA_ev d1))) rfl ?_
  intro w28 F28
  have E29:=E24.trans F28
  have G30:=(((G11.trans (Fr.ext F12)).trans (Fr.ext F16)).trans (Fr.ext F23)).trans (Fr.ext F28)
  refine o_w (v:=.bool ((fewB d0)&&(fewA d1))) (r_pickAnd rfl (fun ht=>(gdT ht)) rfl) ?_
  refine o_w (v:=.bool ((fewB d0)&&(fewA d1))) (r_asg rfl) ?_
  refine eo_nil_sq ?_
  refine ec_seq ?_
  refine ec_region ?_
  refine o_w (v:=.int .u8 d2) (r_mov rfl) ?_
  refine o_w (v:=.int .i64 (IntKind.i64.wrap d2)) (r_conv un_uint8 un_int rfl) ?_
  refine o_w (v:=.int .i64 (Int.tmod (IntKind.i64.wrap d2) (8:Int))) (r_rem rfl rfl rfl) ?_
  refine o_w (v:=.int .i64 (IntKind.i64.wrap ((Int.tmod (IntKind.i64.wrap d2) (8:Int)) + (1:Int)))) (r_int rfl rfl rfl) ?_
  refine o_w (v:=.int .i64 (IntKind.i64.wrap ((Int.tmod (IntKind.i64.wrap d2) (8:Int)) + (1:Int)))) (r_asg rfl) ?_
  refine eo_nil_sq ?_
  iterate 2 refine ec_seq ?_
  refine ec_region ?_
  refine o_w (v:=.bool ((fewB d0)&&(fewA d1))) (r_mov rfl) ?_
  refine o_w (v:=.bool (!((fewB d0)&&(fewA d1)))) (r_not rfl) ?_
  refine o_w (v:=.bool (!((fewB d0)&&(fewA d1)))) (r_mov rfl) ?_
  refine o_vg (v:=.agg (cArena d1 A4 c5 A7 c8).toArray) (want_cf (t:=35) rfl rfl) (fun hk=>(r_lda agg_api_Arena rfl (vs:=(cArena d1 A4 c5 A7 c8)) rfl ((S12.fr ((G20.trans (Fr.ext F23)).trans (Fr.ext F28)) (fun _ h=>h)).now.part (n:=3) rfl))) rfl rfl ?_
  obtain ⟨ha35,h⟩:=h
  refine o_callg (V:=.int .i64 (checkA d1)) cf_arena_Check (want_cf (t:=35) rfl rfl) (fun hk=>(mapv1 (gdT hk))) (fun hk=>(arena_Check_c d1 (kArena_mk (d:=d1) (H6.fr G30 (fun _ h=>h)) (H9.fr G30 (fun _ h=>h))) (hL.fr E29) (arCheck_ev d1 (ha35 hk)))) rfl ?_
  intro w34 F34
  have E36:=E29.trans F34
  have G38:=(((G15.trans (Fr.ext F16)).trans (Fr.ext F23)).trans (Fr.ext F28)).trans (Fr.ext F34)
  refine o_vg (v:=.bool ((checkA d1) != (0:Int))) (want_cf (t:=35) rfl rfl) (fun hk=>(r_int (gdT hk) rfl rfl)) rfl rfl ?_
  refine o_w (v:=.bool ((!((fewB d0)&&(fewA d1)))||((checkA d1) != (0:Int)))) (r_pickOr rfl rfl (fun hf=>(gdT (notT hf)))) ?_
  refine o_w (v:=.bool ((!((fewB d0)&&(fewA d1)))||((checkA d1) != (0:Int)))) (r_mov rfl) ?_
  refine o_vg (v:=.pointer (some ⟨b12,1,none⟩)) (want_cf (t:=40) rfl rfl) (fun hk=>(r_fa fld_api_Arena_1 rfl rfl)) rfl rfl ?_
  refine o_vg (v:=.slice A4 d1.slots.length c5) (want_cf (t:=40) rfl rfl) (fun hk=>(r_ld one_s_api_Entry (gdT hk) ((S12.fr (((G20.trans (Fr.ext F23)).trans (Fr.ext F28)).trans (Fr.ext F34)) (fun _ h=>h)).now.cell rfl))) rfl rfl ?_
  refine o_vg (v:=.int .i64 (d1.slots.length:Int)) (want_cf (t:=40) rfl rfl) (fun hk=>(r_len_slc un_s_api_Entry (gdT hk))) rfl rfl ?_
  refine o_vg (v:=.bool ((d1.slots.length:Int)==(0:Int))) (want_cf (t:=40) rfl rfl) (fun hk=>(r_int (gdT hk) rfl rfl)) rfl rfl ?_
  refine o_w (v:=.bool (((!((fewB d0)&&(fewA d1)))||((checkA d1) != (0:Int)))||((d1.slots.length:Int)==(0:Int)))) (r_pickOr rfl rfl (fun hf=>(gdT (notT hf)))) ?_
  refine eo_nil_sq ?_
  refine ec_cond rfl (fun hc40=>?_) (fun hc40=>?_)
  ·replace h:=h.1 hc40
   refine ec_seq ?_
   refine ec_region ?_
   refine o_w (v:=.bool (worksV)) (r_mov rfl) ?_
   refine o_w (v:=.bool (worksV)) (r_asg rfl) ?_
   refine eo_nil_sq ?_
   refine ec_ret ?_
   refine sq_ret ?_
   subst h
   exact (end1 rfl ⟨_,rfl,E36,rfl⟩)
  ·replace h:=h.2 hc40
   refine ec_skip ?_
   refine sq_n ?_
   refine ec_seq ?_
   refine ec_region ?_
   refine o_w (v:=.agg (cBuf d0 A1 c2).toArray) (r_lda agg_buffer_Buffer rfl (vs:=(cBuf d0 A1 c2)) rfl ((S10.fr G38 (fun _ h=>h)).now.part (n:=3) rfl)) ?_
   refine o_w (v:=.agg (cArena d1 A4 c5 A7 c8).toArray) (r_lda agg_api_Arena rfl (vs:=(cArena d1 A4 c5 A7 c8)) rfl ((S12.fr (((G20.trans (Fr.ext F23)).trans (Fr.ext F28)).trans (Fr.ext F34)) (fun _ h=>h)).now.part (n:=3) rfl)) ?_
   refine o_w (v:=.int .i64 (IntKind.i64.wrap ((Int.tmod (IntKind.i64.wrap d2) (8:Int)) + (1:Int)))) (r_mov rfl) ?_
   refine o_w (v:=.int .u8 d3) (r_mov rfl) ?_
   refine o_w (v:=.int .i64 (IntKind.i64.wrap d3)) (r_conv un_uint8 un_int rfl) ?_
   refine o_w (v:=.int .i64 (Int.tmod (IntKind.i64.wrap d3) (4:Int))) (r_rem rfl rfl rfl) ?_
   refine o_w (v:=.int .i64 (IntKind.i64.wrap ((Int.tmod (IntKind.i64.wrap d3) (4:Int)) + (1:Int)))) (r_int rfl rfl rfl) ?_
   obtain ⟨ha42,h⟩:=h
   obtain ⟨ha43,h⟩:=h
   obtain ⟨x41,hx41,h⟩:=h
   refine o_call cf_push_Send rfl (push_Send_c d0 (kBuf_mk (d:=d0) (H3.fr (G30.trans (Fr.ext F34)) (fun _ h=>h))) d1 (kArena_mk (d:=d1) (H6.fr (G30.trans (Fr.ext F34)) (fun _ h=>h)) (H9.fr (G30.trans (Fr.ext F34)) (fun _ h=>h))) (IntKind.i64.wrap ((Int.tmod (IntKind.i64.wrap d2) (8:Int)) + (1:Int))) (IntKind.i64.wrap ((Int.tmod (IntKind.i64.wrap d3) (4:Int)) + (1:Int))) (hL.fr E36) (eq_ev hx41 (puSend_ev d0 d1 (IntKind.i64.wrap ((Int.tmod (IntKind.i64.wrap d2) (8:Int)) + (1:Int))) (IntKind.i64.wrap ((Int.tmod (IntKind.i64.wrap d3) (4:Int)) + (1:Int))) ha42 ha43))) rfl rfl ?_
   rintro _ w41 ⟨F41,cs44,rfl,H45⟩
   have E46:=E36.trans F41
   have G49:=(((G20.trans (Fr.ext F23)).trans (Fr.ext F28)).trans (Fr.ext F34)).trans (Fr.ext F41)
   obtain ⟨A51,c52,rfl,H53,hl50⟩:=kFrm_open H45
   refine o_w (v:=.tuple #[.agg (cFrm x41.1 A51 c52).toArray,.bool x41.2]) (r_mov rfl) ?_
   refine o_w (v:=.agg (cFrm x41.1 A51 c52).toArray) (r_ext rfl rfl) ?_
   refine o_w (v:=.bool x41.2) (r_ext rfl rfl) ?_
   refine o_alloc zero_frame_Frame rfl rfl rfl ?_
   intro b54 w54 e54 F54 B54
   have n54:w.heap.size≤b54:=by rw [e54]; exact E46.size
   have m55:w.heap.size≤b54:=by rw [e54]; exact ((G30.trans (Fr.ext F34)).trans (Fr.ext F41)).size
   have m56:w10.heap.size≤b54:=by rw [e54]; exact (G38.trans (Fr.ext F41)).size
   have m57:w12.heap.size≤b54:=by rw [e54]; exact G49.size
   have m58:w41.heap.size≤b54:=Nat.le_of_eq e54.symm
   have E59:=E46.trans F54
   have G63:Fr L w41 w54:=Fr.ext F54
   refine o_store rfl B54 (vs:=(cFrm x41.1 A51 c52)) rfl sz_frame_Frame rfl rfl rfl ?_
   intro w64 F64 B64
   have E65:=Ext.st E59 F64 (by simp; omega)
   have G66:Fr L w w64:=(((G30.trans (Fr.ext F34)).trans (Fr.ext F41)).trans (Fr.ext F54)).stp F64 (upc (.inr m55) (fun m hm=>by cases hm))
   have G67:Fr L w10 w64:=((G38.trans (Fr.ext F41)).trans (Fr.ext F54)).stp F64 (upc (.inr m56) (fun m hm=>by cases hm))
   have G68:Fr L w12 w64:=(G49.trans (Fr.ext F54)).stp F64 (upc (.inr m57) (fun m hm=>by cases hm))
   have G69:Fr L w41 w64:=G63.stp F64 (upc (.inr m58) (fun m hm=>by cases hm))
   have B64':Blk w64 b54 _ (cFrm x41.1 A51 c52):=B64
   refine o_w (v:=.bool x41.2) (r_asg rfl) ?_
   refine eo_nil_sq ?_
   refine ec_seq ?_
   refine ec_region ?_
   refine o_w (v:=.agg (cFrm x41.1 A51 c52).toArray) (r_lda agg_frame_Frame rfl (vs:=(cFrm x41.1 A51 c52)) rfl (B64'.part (n:=8) rfl)) ?_
   obtain ⟨ha71,h⟩:=h
   obtain ⟨ha72,h⟩:=h
   obtain ⟨x70,hx70,h⟩:=h
   refine o_call cf_push_Heard rfl (push_Heard_c x41.1 (kFrm_mk (d:=x41.1) (H53.up G69 (fun _ h=>h) (upc (.inr m58) (fun _ h=>.inl h))) hl50) ((hL.fr E65).cons B64'.lt) (eq_ev hx70 (puHeard_ev x41.1 ha71 ha72))) rfl rfl ?_
   rintro _ w70 ⟨F70,cs73,rfl,H74⟩
   have E75:=E65.trans F70
   obtain ⟨A82,c83,rfl,H84,hl81⟩:=kFrm_open H74
   refine o_w (v:=.tuple #[.agg (cFrm x70.1 A82 c83).toArray,.bool x70.2]) (r_mov rfl) ?_
   refine o_w (v:=.agg (cFrm x70.1 A82 c83).toArray) (r_ext rfl rfl) ?_
   refine o_w (v:=.bool x70.2) (r_ext rfl rfl) ?_
   refine o_alloc zero_frame_Frame rfl rfl rfl ?_
   intro b85 w85 e85 F85 B85
   have n85:w.heap.size≤b85:=by rw [e85]; exact E75.size
   have q86:b54<b85:=by rw [e85]; exact (B64'.ex F70).lt
   have m87:w.heap.size≤b85:=by rw [e85]; exact (G66.trans (Fr.ext F70)).size
   have m88:w10.heap.size≤b85:=by rw [e85]; exact (G67.trans (Fr.ext F70)).size
   have m89:w12.heap.size≤b85:=by rw [e85]; exact (G68.trans (Fr.ext F70)).size
   have m91:w70.heap.size≤b85:=Nat.le_of_eq e85.symm
   have E92:=E75.trans F85
   have G97:Fr (b54::L) w70 w85:=Fr.ext F85
   refine o_store rfl B85 (vs:=(cFrm x70.1 A82 c83)) rfl sz_frame_Frame rfl rfl rfl ?_
   intro w99 F99 B99
   have E100:=Ext.st E92 F99 (by simp; omega)
   have G101:Fr L w w99:=((G66.trans (Fr.ext F70)).trans (Fr.ext F85)).stp F99 (upc (.inr m87) (fun m hm=>by cases hm))
   have G102:Fr L w10 w99:=((G67.trans (Fr.ext F70)).trans (Fr.ext F85)).stp F99 (upc (.inr m88) (fun m hm=>by cases hm))
   have G103:Fr L w12 w99:=((G68.trans (Fr.ext F70)).trans (Fr.ext F85)).stp F99 (upc (.inr m89) (fun m hm=>by cases hm))
   have G105:Fr (b54::L) w70 w99:=G97.stp F99 (upc (.inr m91) (fun m hm=>by cases hm))
   have B106:=((B64'.ex F70).ex F85).fr F99 (by simp; omega)
   have B99':Blk w99 b85 _ (cFrm x70.1 A82 c83):=B99
   refine o_w (v:=.bool x70.2) (r_asg rfl) ?_
   refine eo_nil_sq ?_
   iterate 2 refine ec_seq ?_
   refine ec_region ?_
   refine o_w (v:=.bool x41.2) (r_mov rfl) ?_
   refine o_w (v:=.bool (!x41.2)) (r_not rfl) ?_
   refine o_w (v:=.bool (!x41.2)) (r_mov rfl) ?_
   refine o_vg (v:=.bool x70.2) (want_cf (t:=65) rfl rfl) (fun hk=>(r_mov rfl)) rfl rfl ?_
   refine o_vg (v:=.bool (!x70.2)) (want_cf (t:=65) rfl rfl) (fun hk=>(r_not (gdT hk))) rfl rfl ?_
   refine o_w (v:=.bool ((!x41.2)||(!x70.2))) (r_pickOr rfl rfl (fun hf=>(gdT (notT hf)))) ?_
   refine eo_nil_sq ?_
   refine ec_cond rfl (fun hc107=>?_) (fun hc107=>?_)
   ·replace h:=h.1 hc107
    refine ec_seq ?_
    refine ec_region ?_
    refine o_w (v:=.bool (worksV)) (r_mov rfl) ?_
    refine o_w (v:=.bool (worksV)) (r_asg rfl) ?_
    refine eo_nil_sq ?_
    refine ec_ret ?_
    refine sq_ret ?_
    subst h
    exact (end1 rfl ⟨_,rfl,E100,rfl⟩)
   ·replace h:=h.2 hc107
    refine ec_skip ?_
    refine sq_n ?_
    refine ec_seq ?_
    obtain ⟨ha121,h⟩:=h
    obtain ⟨ha122,h⟩:=h
    obtain ⟨cs123,l125,H124⟩:=Stb.elem (by decide) (H6.up G101 (fun _ h=>h) (upc (.inr m87) (upc (.inr m55) (fun _ h=>.inl h)))) (Int.tmod (IntKind.i64.wrap d4) (d1.slots.length:Int)) ha122.1 ha122.2
    obtain ⟨A127,c128,A130,c131,rfl,H126,H129,H132⟩:=kEnt_open2 H124
    refine ec_anyGN (by kernel_rfl) [[],[0],[],[2],[],[4],[4,5],[2,3,4,5,6],[0,1,2,3,4,5,6,7],[0,1,2,3,4,5,6,7,8],[],[0,1,2,3,4,5,6,7,8,9,10]] [18,70,71,72,73,74,75,76,77,78,79] [] [11] 10 0 (fun g w=>∀ b,g=gOf b→Blk w b 48 [str ([]:Str),.int .i64 (0:Int),.int .i64 (0:Int),.int .i64 (0:Int),.bool false,str ([]:Str),.slice none ([]:List Int).length 0,.slice none ([]:List Int).length 0,.int .u64 (0:Int)]) (fun g120=>[own g120]) [[11]] (fun g120=>[fun w'=>(∀ b,g120=gOf b→Blk w' b 48 [str ([]:Str),.int .i64 (0:Int),.int .i64 (0:Int),.int .i64 (0:Int),.bool false,str ([]:Str),.slice none ([]:List Int).length 0,.slice none ([]:List Int).length 0,.int .u64 (0:Int)]),fun w'=>(∀ b,g120=gOf b→Blk w' b 48 (cEnt (nth d1.slots (Int.tmod (IntKind.i64.wrap d4) (d1.slots.length:Int))) A127 c128 A130 c131))]) (fun g120=>[fun v _=>v=(.pointer (some ⟨b12,1,none⟩):Value),fun v _=>v=(.slice A4 d1.slots.length c5:Value),fun v _=>v=(.int .u8 d4:Value),fun v _=>v=(.int .i64 (IntKind.i64.wrap d4):Value),fun v _=>v=(.pointer (some ⟨b12,1,none⟩):Value),fun v _=>v=(.slice A4 d1.slots.length c5:Value),fun v _=>v=(.int .i64 (d1.slots.length:Int):Value),fun v _=>v=(.int .i64 (Int.tmod (IntKind.i64.wrap d4) (d1.slots.length:Int)):Value),fun v _=>v=(.pointer (some (elemA A4 kEnt.n (Int.tmod (IntKind.i64.wrap d4) (d1.slots.length:Int)).toNat)):Value),fun v _=>v=(.agg (cEnt (nth d1.slots (Int.tmod (IntKind.i64.wrap d4) (d1.slots.length:Int))) A127 c128 A130 c131).toArray:Value),fun v w'=>∃ b120_10,v=(.pointer (some ⟨b120_10,0,none⟩):Value)∧g120=gOf b120_10∧w99.heap.size≤b120_10,fun _ _=>True]) (by kernel_rfl) (fun _=>rfl) (fun _=>rfl) (fun g120=>(allM1 (φ:=fun M=>∀ m∈M,m∈[]∨m∈own g120) (fun m hm=>.inr hm) (fun _ h=>by cases h))) (fun g120=>⟨fun _ _ _ _ _ h=>h,fun _ _ _ _ _ h=>h,fun _ _ _ _ _ h=>h,fun _ _ _ _ _ h=>h,fun _ _ _ _ _ h=>h,fun _ _ _ _ _ h=>h,fun _ _ _ _ _ h=>h,fun _ _ _ _ _ h=>h,fun _ _ _ _ _ h=>h,fun _ _ _ _ _ h=>h,fun _ v w' w'' F h=>by obtain ⟨b120_10,hv,heb120_10,lob120_10⟩:=h; exact ⟨b120_10,hv,heb120_10,lob120_10⟩,fun _ _ _ _ _ h=>h,trivial⟩) (fun g120=>⟨⟨fun _ _ _ _ _ _ h=>h,fun _ _ _ _ _ _ h=>h,fun _ _ _ _ _ _ h=>h,fun _ _ _ _ _ _ h=>h,fun _ _ _ _ _ _ h=>h,fun _ _ _ _ _ _ h=>h,fun _ _ _ _ _ _ h=>h,fun _ _ _ _ _ _ h=>h,fun _ _ _ _ _ _ h=>h,fun _ _ _ _ _ _ h=>h,fun _ v w' w'' hg120 F h=>by obtain ⟨b120_10,hv,heb120_10,lob120_10⟩:=h; exact ⟨b120_10,hv,heb120_10,lob120_10⟩,(fun h=>absurd h (by decide)),trivial⟩,trivial⟩) (fun g w hw hg=>⟨fun _ _ _ _ h=>h,fun _ _ _ _ h=>h,fun _ _ _ _ h=>h,fun _ _ _ _ h=>h,fun _ _ _ _ h=>h,fun _ _ _ _ h=>h,fun _ _ _ _ h=>h,fun _ _ _ _ h=>h,fun _ _ _ _ h=>h,fun _ _ _ _ h=>h,(fun h=>absurd h (by decide)),fun _ _ _ _ h=>h,trivial⟩) (fun g120=>⟨fun w' w'' F h=>by have hG120:=h; exact (fun b e=>(hG120 b e).ex F),fun w' w'' F h=>by have hG120:=h; exact (fun b e=>(hG120 b e).ex F),trivial⟩) (fun b e=>absurd e gNil_ne) (fun k hk g w w' hw hg F hX hI=>match k,hk,hI with | 0,_,hI=>by have hG120:=hI; exact hX | k + 1,hk,_=>absurd hk (by omega)) ?_ ?_ ?_ ?_
    ·refine ⟨?_,?_,?_,?_,?_,?_,?_,?_,?_,?_,?_,?_,trivial⟩
     ·intro _ _ g120 ρ w120o hg120 F120o hX hS hρ
      have F120o:=hX 11 rfl rfl
      have q6:ρ 6=.pointer (some ⟨b12,0,none⟩):=hρ 6 (by kernel_rfl)
      exact o_q (r_fa fld_api_Arena_1 rfl q6) ⟨Fr.refl _ _,rfl⟩
     ·intro _ _ g120 ρ w120o hg120 F120o hX hS hρ
      have F120o:=hX 11 rfl rfl
      have q70:ρ 70=.pointer (some ⟨b12,1,none⟩):=hS 0 (by decide) 70 rfl
      exact o_q (r_ld one_s_api_Entry q70 ((S12.fr (G103.trans (Fr.ext F120o)) (fun _ h=>h)).now.cell rfl)) ⟨Fr.refl _ _,rfl⟩
     ·intro _ _ g120 ρ w120o hg120 F120o hX hS hρ
      have F120o:=hX 11 rfl rfl
      have q4:ρ 4=.int .u8 d4:=hρ 4 (by kernel_rfl)
      exact o_q (r_mov q4) ⟨Fr.refl _ _,rfl⟩
     ·intro _ _ g120 ρ w120o hg120 F120o hX hS hρ
      have F120o:=hX 11 rfl rfl
      have q72:ρ 72=.int .u8 d4:=hS 2 (by decide) 72 rfl
      exact o_q (r_conv un_uint8 un_int q72) ⟨Fr.refl _ _,rfl⟩
     ·intro _ _ g120 ρ w120o hg120 F120o hX hS hρ
      have F120o:=hX 11 rfl rfl
      have q6:ρ 6=.pointer (some ⟨b12,0,none⟩):=hρ 6 (by kernel_rfl)
      exact o_q (r_fa fld_api_Arena_1 rfl q6) ⟨Fr.refl _ _,rfl⟩
     ·intro _ _ g120 ρ w120o hg120 F120o hX hS hρ
      have F120o:=hX 11 rfl rfl
      have q74:ρ 74=.pointer (some ⟨b12,1,none⟩):=hS 4 (by decide) 74 rfl
      exact o_q (r_ld one_s_api_Entry q74 ((S12.fr (G103.trans (Fr.ext F120o)) (fun _ h=>h)).now.cell rfl)) ⟨Fr.refl _ _,rfl⟩
     ·intro _ _ g120 ρ w120o hg120 F120o hX hS hρ
      have F120o:=hX 11 rfl rfl
      have q75:ρ 75=.slice A4 d1.slots.length c5:=hS 5 (by decide) 75 rfl
      exact o_q (r_len_slc un_s_api_Entry q75) ⟨Fr.refl _ _,rfl⟩
     ·intro _ _ g120 ρ w120o hg120 F120o hX hS hρ
      have F120o:=hX 11 rfl rfl
      have q73:ρ 73=.int .i64 (IntKind.i64.wrap d4):=hS 3 (by decide) 73 rfl
      have q76:ρ 76=.int .i64 (d1.slots.length:Int):=hS 6 (by decide) 76 rfl
      exact o_q (r_rem q73 q76 ha121) ⟨Fr.refl _ _,rfl⟩
     ·intro _ _ g120 ρ w120o hg120 F120o hX hS hρ
      have F120o:=hX 11 rfl rfl
      have q71:ρ 71=.slice A4 d1.slots.length c5:=hS 1 (by decide) 71 rfl
      have q77:ρ 77=.int .i64 (Int.tmod (IntKind.i64.wrap d4) (d1.slots.length:Int)):=hS 7 (by decide) 77 rfl
      exact o_q (r_ia slc_s_api_Entry q71 q77 ((H6.fr (G101.trans (Fr.ext F120o)) (fun _ h=>h)).now.2 _ (lt_toNat ha122.1 ha122.2)).1 ha122.1 ha122.2) ⟨Fr.refl _ _,rfl⟩
     ·intro _ _ g120 ρ w120o hg120 F120o hX hS hρ
      have F120o:=hX 11 rfl rfl
      have G166:Fr (b85::(b54::L)) w99 w120o:=Fr.ext F120o
      have q78:ρ 78=.pointer (some (elemA A4 kEnt.n (Int.tmod (IntKind.i64.wrap d4) (d1.slots.length:Int)).toNat)):=hS 8 (by decide) 78 rfl
      exact o_q (r_lda' agg_api_Entry q78 (elemA_spot _ _ _) (vs:=(cEnt (nth d1.slots (Int.tmod (IntKind.i64.wrap d4) (d1.slots.length:Int))) A127 c128 A130 c131)) rfl ((H126.fr G166 (fun _ h=>h)).now.1)) ⟨Fr.refl _ _,rfl⟩
     ·intro _ hT; exact absurd hT (by decide)
     ·intro hT; exact absurd hT (by decide)
    ·intro o ho ρ w120o F120o hX hS hρ; cases Option.some.inj ho; refine o_alloc zero_api_Entry rfl rfl rfl ?_; intro b w' e F B; subst e
     exact eo_nil ⟨rfl,rfl,_,rfl,F,gOf _,(fun m hm=>by rw [own_gOf,List.mem_singleton] at hm; subst hm; exact ⟨Nat.le_refl _,B.lt⟩),(fun b e=>by obtain rfl:=gOf_inj e; exact B),_,rfl,rfl,F120o.size⟩
    ·refine ⟨⟨_,rfl,?_⟩,trivial⟩
     ·intro g120 ρ w120o hg120 F120o hX hI hS hρ
      have hG120:=hI
      obtain ⟨b120_10,q18,heb120_10,lob120_10⟩:=hS 10 (by decide) 18 rfl
      have q79:ρ 79=.agg (cEnt (nth d1.slots (Int.tmod (IntKind.i64.wrap d4) (d1.slots.length:Int))) A127 c128 A130 c131).toArray:=hS 9 (by decide) 79 rfl
      subst heb120_10
      have hB120_b120_10:=hG120 _ rfl
      refine o_store (show ev ρ _=_ from q18) hB120_b120_10 (vs:=[str ((nth d1.slots (Int.tmod (IntKind.i64.wrap d4) (d1.slots.length:Int))).key),.int .i64 (((nth d1.slots (Int.tmod (IntKind.i64.wrap d4) (d1.slots.length:Int))).val).kind),.int .i64 (((nth d1.slots (Int.tmod (IntKind.i64.wrap d4) (d1.slots.length:Int))).val).time),.int .i64 (((nth d1.slots (Int.tmod (IntKind.i64.wrap d4) (d1.slots.length:Int))).val).node),.bool (((nth d1.slots (Int.tmod (IntKind.i64.wrap d4) (d1.slots.length:Int))).val).dead),str (((nth d1.slots (Int.tmod (IntKind.i64.wrap d4) (d1.slots.length:Int))).val).text),.slice A127 (((nth d1.slots (Int.tmod (IntKind.i64.wrap d4) (d1.slots.length:Int))).val).plus).length c128,.slice A130 (((nth d1.slots (Int.tmod (IntKind.i64.wrap d4) (d1.slots.length:Int))).val).minus).length c131,.int .u64 (((nth d1.slots (Int.tmod (IntKind.i64.wrap d4) (d1.slots.length:Int))).val).flags)]) (congrArg Value.cells q79) sz_api_Entry rfl rfl rfl ?_
      intro w' F B2
      exact eo_nil ⟨rfl,rfl,undef,rfl,F,(fun b e=>by obtain rfl:=gOf_inj e; exact B2),trivial⟩
    ·intro g120 ρ w120 hg120 F120 hI hS hρ
     have hG120:=hI
     obtain ⟨b120_10,q18,heb120_10,lob120_10⟩:=hS 10 18 rfl
     subst heb120_10
     have hB120_b120_10:=hG120 _ rfl
     obtain ⟨ρ',rfl⟩:∃ ρ',ρ=envs (ovr [18,70,71,72,73,74,75,76,77,78,79] ρ' _) [(18,.pointer (some ⟨b120_10,0,none⟩))]:=⟨ρ,ovr_self hρ ⟨q18,trivial⟩⟩
     have n120_10:w.heap.size≤b120_10:=Nat.le_trans E100.size lob120_10
     have q178:b54<b120_10:=Nat.lt_of_lt_of_le B106.lt lob120_10
     have q179:b85<b120_10:=Nat.lt_of_lt_of_le B99'.lt lob120_10
     have m180:w.heap.size≤b120_10:=Nat.le_trans G101.size lob120_10
     have m184:w70.heap.size≤b120_10:=Nat.le_trans G105.size lob120_10
     have m185:w99.heap.size≤b120_10:=lob120_10
     have E186:=E100.trans F120
     have G192:Fr (b85::(b54::L)) w99 w120:=Fr.ext F120
     refine sq_n ?_
     refine ec_seq ?_
     obtain ⟨ha197,h⟩:=h
     obtain ⟨ha198,h⟩:=h
     obtain ⟨x196,hx196,h⟩:=h
     obtain ⟨x202,hx202,h⟩:=h
     obtain ⟨ha207,h⟩:=h
     obtain ⟨ha208,h⟩:=h
     obtain ⟨x206,hx206,h⟩:=h
     refine ec_anyGN (by kernel_rfl) [[],[],[],[0,1,2],[0,1,2,3],[],[],[],[0,1,2,3,4,5,6,7],[],[0,1,2,3,4,5,6,7,8,9]] [19,80,81,82,83,84,85,86,87,88] [] [10] 9 0 (fun g w=>∀ b,g=gOf b→Blk w b 24 [.int .i64 (0:Int),.int .i64 (0:Int),.slice none ([]:List Nm).length 0]) (fun g195=>[own g195]) [[10]] (fun g195=>[fun w'=>(∀ b,g195=gOf b→Blk w' b 24 [.int .i64 (0:Int),.int .i64 (0:Int),.slice none ([]:List Nm).length 0]),fun w'=>∃ A209 c210,Stb (own g195++(b120_10::(b85::(b54::L)))) w' (fun w=>SlC kNm w A209 c210 x206.names)∧(∀ b,g195=gOf b→Blk w' b 24 (cBuf x206 A209 c210))]) (fun g195=>[fun v _=>v=(.agg (cBuf d0 A1 c2).toArray:Value),fun v _=>v=(.agg (cArena d1 A4 c5 A7 c8).toArray:Value),fun v _=>v=(.int .i64 (IntKind.i64.wrap ((Int.tmod (IntKind.i64.wrap d2) (8:Int)) + (1:Int))):Value),fun v w'=>∃ A199 c200,v=(.agg (cBuf x196 A199 c200).toArray:Value)∧Stb (own g195++(b120_10::(b85::(b54::L)))) w' (fun w=>SlC kNm w A199 c200 x196.names),fun v w'=>∃ A203 c204,v=(.agg (cBuf x202 A203 c204).toArray:Value)∧Stb (own g195++(b120_10::(b85::(b54::L)))) w' (fun w=>SlC kNm w A203 c204 x202.names),fun v _=>v=(.agg (cArena d1 A4 c5 A7 c8).toArray:Value),fun v _=>v=(.int .i64 (IntKind.i64.wrap ((Int.tmod (IntKind.i64.wrap d2) (8:Int)) + (1:Int))):Value),fun v _=>v=(.agg (cEnt (nth d1.slots (Int.tmod (IntKind.i64.wrap d4) (d1.slots.length:Int))) A127 c128 A130 c131).toArray:Value),fun v w'=>∃ A209 c210,v=(.agg (cBuf x206 A209 c210).toArray:Value)∧Stb (own g195++(b120_10::(b85::(b54::L)))) w' (fun w=>SlC kNm w A209 c210 x206.names),fun v w'=>∃ b195_9,v=(.pointer (some ⟨b195_9,0,none⟩):Value)∧g195=gOf b195_9∧w120.heap.size≤b195_9,fun _ _=>True]) (by kernel_rfl) (fun _=>rfl) (fun _=>rfl) (fun g195=>(allM1 (φ:=fun M=>∀ m∈M,m∈[]∨m∈own g195) (fun m hm=>.inr hm) (fun _ h=>by cases h))) (fun g195=>⟨fun _ _ _ _ _ h=>h,fun _ _ _ _ _ h=>h,fun _ _ _ _ _ h=>h,fun _ v w' w'' F h=>by obtain ⟨A199,c200,hv,H201⟩:=h; exact ⟨A199,c200,hv,(H201.ex F)⟩,fun _ v w' w'' F h=>by obtain ⟨A203,c204,hv,H205⟩:=h; exact ⟨A203,c204,hv,(H205.ex F)⟩,fun _ _ _ _ _ h=>h,fun _ _ _ _ _ h=>h,fun _ _ _ _ _ h=>h,fun _ v w' w'' F h=>by obtain ⟨A209,c210,hv,H211⟩:=h; exact ⟨A209,c210,hv,(H211.ex F)⟩,fun _ v w' w'' F h=>by obtain ⟨b195_9,hv,heb195_9,lob195_9⟩:=h; exact ⟨b195_9,hv,heb195_9,lob195_9⟩,fun _ _ _ _ _ h=>h,trivial⟩) (fun g195=>⟨⟨fun _ _ _ _ _ _ h=>h,fun _ _ _ _ _ _ h=>h,fun _ _ _ _ _ _ h=>h,fun _ v w' w'' hg195 F h=>by obtain ⟨A199,c200,hv,H201⟩:=h; exact ⟨A199,c200,hv,(H201.fr F (fun m hm=>List.mem_append_left _ hm))⟩,fun _ v w' w'' hg195 F h=>by obtain ⟨A203,c204,hv,H205⟩:=h; exact ⟨A203,c204,hv,(H205.fr F (fun m hm=>List.mem_append_left _ hm))⟩,fun _ _ _ _ _ _ h=>h,fun _ _ _ _ _ _ h=>h,fun _ _ _ _ _ _ h=>h,fun _ v w' w'' hg195 F h=>by obtain ⟨A209,c210,hv,H211⟩:=h; exact ⟨A209,c210,hv,(H211.fr F (fun m hm=>List.mem_append_left _ hm))⟩,fun _ v w' w'' hg195 F h=>by obtain ⟨b195_9,hv,heb195_9,lob195_9⟩:=h; exact ⟨b195_9,hv,heb195_9,lob195_9⟩,(fun h=>absurd h (by decide)),trivial⟩,trivial⟩) (fun g w hw hg=>⟨fun _ _ _ _ h=>h,fun _ _ _ _ h=>h,fun _ _ _ _ h=>h,fun _ v w' F h=>by obtain ⟨A199,c200,hv,H201⟩:=h; exact ⟨A199,c200,hv,(stb_born H201 hg F)⟩,fun _ v w' F h=>by obtain ⟨A203,c204,hv,H205⟩:=h; exact ⟨A203,c204,hv,(stb_born H205 hg F)⟩,fun _ _ _ _ h=>h,fun _ _ _ _ h=>h,fun _ _ _ _ h=>h,fun _ v w' F h=>by obtain ⟨A209,c210,hv,H211⟩:=h; exact ⟨A209,c210,hv,(stb_born H211 hg F)⟩,(fun h=>absurd h (by decide)),fun _ _ _ _ h=>h,trivial⟩) (fun g195=>⟨fun w' w'' F h=>by have hG195:=h; exact (fun b e=>(hG195 b e).ex F),fun w' w'' F h=>by obtain ⟨A209,c210,H211,hG195⟩:=h; exact ⟨A209,c210,(H211.ex F),(fun b e=>(hG195 b e).ex F)⟩,trivial⟩) (fun b e=>absurd e gNil_ne) (fun k hk g w w' hw hg F hX hI=>match k,hk,hI with | 0,_,hI=>by have hG195:=hI; exact hX | k + 1,hk,_=>absurd hk (by omega)) ?_ ?_ ?_ ?_
     ·refine ⟨?_,?_,?_,?_,?_,?_,?_,?_,?_,?_,?_,trivial⟩
      ·intro _ _ g195 ρ w195o hg195 F195o hX hS hρ
       have F195o:=hX 10 rfl rfl
       have q5:ρ 5=.pointer (some ⟨b10,0,none⟩):=hρ 5 (by kernel_rfl)
       exact o_q (r_lda agg_buffer_Buffer q5 (vs:=(cBuf d0 A1 c2)) rfl ((S10.fr ((G102.trans (Fr.ext F120)).trans (Fr.ext F195o)) (fun _ h=>h)).now.part (n:=3) rfl)) ⟨Fr.refl _ _,rfl⟩
      ·intro _ _ g195 ρ w195o hg195 F195o hX hS hρ
       have F195o:=hX 10 rfl rfl
       have q6:ρ 6=.pointer (some ⟨b12,0,none⟩):=hρ 6 (by kernel_rfl)
       exact o_q (r_lda agg_api_Arena q6 (vs:=(cArena d1 A4 c5 A7 c8)) rfl ((S12.fr ((G103.trans (Fr.ext F120)).trans (Fr.ext F195o)) (fun _ h=>h)).now.part (n:=3) rfl)) ⟨Fr.refl _ _,rfl⟩
      ·intro _ _ g195 ρ w195o hg195 F195o hX hS hρ
       have F195o:=hX 10 rfl rfl
       have q13:ρ 13=.int .i64 (IntKind.i64.wrap ((Int.tmod (IntKind.i64.wrap d2) (8:Int)) + (1:Int))):=hρ 13 (by kernel_rfl)
       exact o_q (r_mov q13) ⟨Fr.refl _ _,rfl⟩
      ·intro _ _ g195 ρ w195o hg195 F195o hX hS hρ
       have F195o:=hX 10 rfl rfl
       have E232:=E186.trans F195o
       have q80:ρ 80=.agg (cBuf d0 A1 c2).toArray:=hS 0 (by decide) 80 rfl
       have q81:ρ 81=.agg (cArena d1 A4 c5 A7 c8).toArray:=hS 1 (by decide) 81 rfl
       have q82:ρ 82=.int .i64 (IntKind.i64.wrap ((Int.tmod (IntKind.i64.wrap d2) (8:Int)) + (1:Int))):=hS 2 (by decide) 82 rfl
       refine o_call cf_buffer_Mend (by simp only [List.map,ev,q80,q81,q82] <;> rfl) (buffer_Mend_c d0 (kBuf_mk (d:=d0) (H3.up ((G101.trans (Fr.ext F120)).trans (Fr.ext F195o)) (fun _ h=>h) (upo (fun m hm=>.inr (Nat.le_trans ((G101.trans (Fr.ext F120)).size) (hg195 m hm).1)) (upc (.inr m180) (upc (.inr m87) (upc (.inr m55) (fun _ h=>.inl h))))))) d1 (kArena_mk (d:=d1) (H6.up ((G101.trans (Fr.ext F120)).trans (Fr.ext F195o)) (fun _ h=>h) (upo (fun m hm=>.inr (Nat.le_trans ((G101.trans (Fr.ext F120)).size) (hg195 m hm).1)) (upc (.inr m180) (upc (.inr m87) (upc (.inr m55) (fun _ h=>.inl h)))))) (H9.up ((G101.trans (Fr.ext F120)).trans (Fr.ext F195o)) (fun _ h=>h) (upo (fun m hm=>.inr (Nat.le_trans ((G101.trans (Fr.ext F120)).size) (hg195 m hm).1)) (upc (.inr m180) (upc (.inr m87) (upc (.inr m55) (fun _ h=>.inl h))))))) (IntKind.i64.wrap ((Int.tmod (IntKind.i64.wrap d2) (8:Int)) + (1:Int))) (lt_ghost ((((hL.fr E232).cons ((B106.ex F120).ex F195o).lt).cons ((B99'.ex F120).ex F195o).lt).cons (hB120_b120_10.ex F195o).lt) hg195) (eq_ev hx196 (bufMend_ev d0 d1 (IntKind.i64.wrap ((Int.tmod (IntKind.i64.wrap d2) (8:Int)) + (1:Int))) ha197 ha198))) rfl rfl ?_
       rintro _ w' ⟨F,cs242,rfl,H243⟩
       obtain ⟨A199,c200,rfl,H201⟩:=kBuf_open H243
       exact eo_nil ⟨rfl,rfl,_,rfl,F,⟨A199,c200,rfl,H201⟩⟩
      ·intro _ _ g195 ρ w195o hg195 F195o hX hS hρ
       have F195o:=hX 10 rfl rfl
       have E244:=E186.trans F195o
       obtain ⟨A199,c200,q83,H201⟩:=hS 3 (by decide) 83 rfl
       refine o_call cf_buffer_Reset (by simp only [List.map,ev,q83] <;> rfl) (buffer_Reset_c x196 (kBuf_mk (d:=x196) H201) (lt_ghost ((((hL.fr E244).cons ((B106.ex F120).ex F195o).lt).cons ((B99'.ex F120).ex F195o).lt).cons (hB120_b120_10.ex F195o).lt) hg195) (eq_ev hx202 (bufReset_ev x196))) rfl rfl ?_
       rintro _ w' ⟨F,cs254,rfl,H255⟩
       obtain ⟨A203,c204,rfl,H205⟩:=kBuf_open H255
       exact eo_nil ⟨rfl,rfl,_,rfl,F,⟨A203,c204,rfl,H205⟩⟩
      ·intro _ _ g195 ρ w195o hg195 F195o hX hS hρ
       have F195o:=hX 10 rfl rfl
       have q6:ρ 6=.pointer (some ⟨b12,0,none⟩):=hρ 6 (by kernel_rfl)
       exact o_q (r_lda agg_api_Arena q6 (vs:=(cArena d1 A4 c5 A7 c8)) rfl ((S12.fr ((G103.trans (Fr.ext F120)).trans (Fr.ext F195o)) (fun _ h=>h)).now.part (n:=3) rfl)) ⟨Fr.refl _ _,rfl⟩
      ·intro _ _ g195 ρ w195o hg195 F195o hX hS hρ
       have F195o:=hX 10 rfl rfl
       have q13:ρ 13=.int .i64 (IntKind.i64.wrap ((Int.tmod (IntKind.i64.wrap d2) (8:Int)) + (1:Int))):=hρ 13 (by kernel_rfl)
       exact o_q (r_mov q13) ⟨Fr.refl _ _,rfl⟩
      ·intro _ _ g195 ρ w195o hg195 F195o hX hS hρ
       have F195o:=hX 10 rfl rfl
       have q18:ρ 18=.pointer (some ⟨b120_10,0,none⟩):=hρ 18 (by kernel_rfl)
       exact o_q (r_lda agg_api_Entry q18 (vs:=(cEnt (nth d1.slots (Int.tmod (IntKind.i64.wrap d4) (d1.slots.length:Int))) A127 c128 A130 c131)) rfl ((hB120_b120_10.ex F195o).part (n:=9) rfl)) ⟨Fr.refl _ _,rfl⟩
      ·intro _ _ g195 ρ w195o hg195 F195o hX hS hρ
       have F195o:=hX 10 rfl rfl
       have E276:=E186.trans F195o
       obtain ⟨A203,c204,q84,H205⟩:=hS 4 (by decide) 84 rfl
       have q85:ρ 85=.agg (cArena d1 A4 c5 A7 c8).toArray:=hS 5 (by decide) 85 rfl
       have q86:ρ 86=.int .i64 (IntKind.i64.wrap ((Int.tmod (IntKind.i64.wrap d2) (8:Int)) + (1:Int))):=hS 6 (by decide) 86 rfl
       have q87:ρ 87=.agg (cEnt (nth d1.slots (Int.tmod (IntKind.i64.wrap d4) (d1.slots.length:Int))) A127 c128 A130 c131).toArray:=hS 7 (by decide) 87 rfl
       refine o_call cf_buffer_Note (by simp only [List.map,ev,q84,q85,q86,q87] <;> rfl) (buffer_Note_c x202 (kBuf_mk (d:=x202) H205) d1 (kArena_mk (d:=d1) (H6.up ((G101.trans (Fr.ext F120)).trans (Fr.ext F195o)) (fun _ h=>h) (upo (fun m hm=>.inr (Nat.le_trans ((G101.trans (Fr.ext F120)).size) (hg195 m hm).1)) (upc (.inr m180) (upc (.inr m87) (upc (.inr m55) (fun _ h=>.inl h)))))) (H9.up ((G101.trans (Fr.ext F120)).trans (Fr.ext F195o)) (fun _ h=>h) (upo (fun m hm=>.inr (Nat.le_trans ((G101.trans (Fr.ext F120)).size) (hg195 m hm).1)) (upc (.inr m180) (upc (.inr m87) (upc (.inr m55) (fun _ h=>.inl h))))))) (IntKind.i64.wrap ((Int.tmod (IntKind.i64.wrap d2) (8:Int)) + (1:Int))) (nth d1.slots (Int.tmod (IntKind.i64.wrap d4) (d1.slots.length:Int))) (kEnt_mk (d:=(nth d1.slots (Int.tmod (IntKind.i64.wrap d4) (d1.slots.length:Int)))) (H129.up (G192.trans (Fr.ext F195o)) (fun _ h=>h) (upo (fun m hm=>.inr (Nat.le_trans (G192.size) (hg195 m hm).1)) (upc (.inr m185) (upc (.inl (List.Mem.head _)) (upc (.inl (List.Mem.tail _ (List.Mem.head _))) (fun m hm=>Or.inl (List.Mem.tail _ (List.Mem.tail _ hm)))))))) (H132.up (G192.trans (Fr.ext F195o)) (fun _ h=>h) (upo (fun m hm=>.inr (Nat.le_trans (G192.size) (hg195 m hm).1)) (upc (.inr m185) (upc (.inl (List.Mem.head _)) (upc (.inl (List.Mem.tail _ (List.Mem.head _))) (fun m hm=>Or.inl (List.Mem.tail _ (List.Mem.tail _ hm))))))))) (lt_ghost ((((hL.fr E276).cons ((B106.ex F120).ex F195o).lt).cons ((B99'.ex F120).ex F195o).lt).cons (hB120_b120_10.ex F195o).lt) hg195) (eq_ev hx206 (bufNote_ev x202 d1 (IntKind.i64.wrap ((Int.tmod (IntKind.i64.wrap d2) (8:Int)) + (1:Int))) (nth d1.slots (Int.tmod (IntKind.i64.wrap d4) (d1.slots.length:Int))) ha207 ha208))) rfl rfl ?_
       rintro _ w' ⟨F,cs286,rfl,H287⟩
       obtain ⟨A209,c210,rfl,H211⟩:=kBuf_open H287
       exact eo_nil ⟨rfl,rfl,_,rfl,F,⟨A209,c210,rfl,H211⟩⟩
      ·intro _ hT; exact absurd hT (by decide)
      ·intro hT; exact absurd hT (by decide)
     ·intro o ho ρ w195o F195o hX hS hρ; cases Option.some.inj ho; refine o_alloc zero_buffer_Buffer rfl rfl rfl ?_; intro b w' e F B; subst e
      exact eo_nil ⟨rfl,rfl,_,rfl,F,gOf _,(fun m hm=>by rw [own_gOf,List.mem_singleton] at hm; subst hm; exact ⟨Nat.le_refl _,B.lt⟩),(fun b e=>by obtain rfl:=gOf_inj e; exact B),_,rfl,rfl,F195o.size⟩
     ·refine ⟨⟨_,rfl,?_⟩,trivial⟩
      ·intro g195 ρ w195o hg195 F195o hX hI hS hρ
       have hG195:=hI
       obtain ⟨b195_9,q19,heb195_9,lob195_9⟩:=hS 9 (by decide) 19 rfl
       obtain ⟨A209,c210,q88,H211⟩:=hS 8 (by decide) 88 rfl
       subst heb195_9
       have hB195_b195_9:=hG195 _ rfl
       refine o_store (show ev ρ _=_ from q19) hB195_b195_9 (vs:=[.int .i64 x206.epoch,.int .i64 x206.first,.slice A209 x206.names.length c210]) (congrArg Value.cells q88) sz_buffer_Buffer rfl rfl rfl ?_
       intro w' F B2
       exact eo_nil ⟨rfl,rfl,undef,rfl,F,⟨A209,c210,(H211.fr F (fun m hm=>List.mem_append_left _ hm)),(fun b e=>by obtain rfl:=gOf_inj e; exact B2)⟩,trivial⟩
     ·intro g195 ρ w195 hg195 F195 hI hS hρ
      obtain ⟨A209,c210,H211,hG195⟩:=hI
      obtain ⟨b195_9,q19,heb195_9,lob195_9⟩:=hS 9 19 rfl
      subst heb195_9
      have hB195_b195_9:=hG195 _ rfl
      have H211:Stb (b195_9::(b120_10::(b85::(b54::L)))) w195 (fun w=>SlC kNm w A209 c210 x206.names):=H211
      obtain ⟨ρ',rfl⟩:∃ ρ',ρ=envs (ovr [19,80,81,82,83,84,85,86,87,88] ρ' _) [(19,.pointer (some ⟨b195_9,0,none⟩))]:=⟨ρ,ovr_self hρ ⟨q19,trivial⟩⟩
      have n195_9:w.heap.size≤b195_9:=Nat.le_trans E186.size lob195_9
      have q298:b54<b195_9:=Nat.lt_of_lt_of_le (B106.ex F120).lt lob195_9
      have q299:b85<b195_9:=Nat.lt_of_lt_of_le (B99'.ex F120).lt lob195_9
      have q300:b120_10<b195_9:=Nat.lt_of_lt_of_le hB120_b120_10.lt lob195_9
      have m301:w.heap.size≤b195_9:=Nat.le_trans (G101.trans (Fr.ext F120)).size lob195_9
      have m305:w70.heap.size≤b195_9:=Nat.le_trans (G105.trans (Fr.ext F120)).size lob195_9
      have E307:=E186.trans F195
      have Z195:=Fr.refl (b195_9::(b120_10::(b85::(b54::L)))) w195
      refine sq_n ?_
      refine ec_seq ?_
      obtain ⟨ha319,h⟩:=h
      obtain ⟨ha320,h⟩:=h
      obtain ⟨ha321,h⟩:=h
      obtain ⟨ha322,h⟩:=h
      obtain ⟨x318,hx318,h⟩:=h
      obtain ⟨ha327,h⟩:=h
      refine ec_any0 (by kernel_rfl) [[],[0],[0,1],[0,1],[0,1],[0,1],[0,1,2,3,4,5],[0,1],[0,1,2,3,4,5,6,7],[0,1,2,3,4,5,6,7,8],[0,1,2,3,4,5,6,7,8,9],[0,1,2,3,4,5,6,7,8,9,10],[0,1,2,3,4,5,6,7,8,9,10,11],[0,1,2,3,4,5,6,7,8,9,10,11,12],[0,1,2,3,4,5,6,7,8,9,10,11,12,13],[0,1,2,3,4,5,6,7,8,9,10,11,12,13,14],[0,1,2,3,4,5,6,7,8,9,10,11,12,13,14,15]] [10,89,90,91,92,93,94,95,96,97,98,99,100,101,102,103,104] [fun v _=>v=(.bool (worksV):Value),fun v _=>v=(.bool (worksV):Value),fun v _=>v=(.agg (cBuf x206 A209 c210).toArray:Value),fun v _=>v=(.agg (cArena d1 A4 c5 A7 c8).toArray:Value),fun v _=>v=(.int .i64 (IntKind.i64.wrap ((Int.tmod (IntKind.i64.wrap d2) (8:Int)) + (1:Int))):Value),fun v _=>v=(.agg (cFrm x70.1 A82 c83).toArray:Value),fun v w'=>∃ A323 c324,v=(.agg (cBuf x318 A323 c324).toArray:Value)∧Stb (b195_9::(b120_10::(b85::(b54::L)))) w' (fun w=>SlC kNm w A323 c324 x318.names),fun v _=>v=(.agg (cBuf x206 A209 c210).toArray:Value),fun v _=>v=(.bool (sameB x318 x206):Value),fun v _=>v=(.bool (sameB x318 x206):Value),fun v _=>v=(.bool (sameB x318 x206):Value),fun v _=>v=((bif (sameB x318 x206) then (.pointer (some ⟨b195_9,2,none⟩):Value) else undef):Value),fun v _=>v=((bif (sameB x318 x206) then (.slice A209 x206.names.length c210:Value) else undef):Value),fun v _=>v=((bif (sameB x318 x206) then (.int .i64 (x206.names.length:Int):Value) else undef):Value),fun v _=>v=((bif (sameB x318 x206) then (.bool ((x206.names.length:Int)==(1:Int)):Value) else undef):Value),fun v _=>v=(.bool ((sameB x318 x206)&&((x206.names.length:Int)==(1:Int))):Value),fun v _=>v=(.bool ((sameB x318 x206)&&((x206.names.length:Int)==(1:Int))):Value)] (by kernel_rfl) ⟨fun _ _ _ _ _ h=>h,fun _ _ _ _ _ h=>h,fun _ _ _ _ _ h=>h,fun _ _ _ _ _ h=>h,fun _ _ _ _ _ h=>h,fun _ _ _ _ _ h=>h,fun _ v w' w'' F h=>by obtain ⟨A323,c324,hv,H325⟩:=h; exact ⟨A323,c324,hv,(H325.ex F)⟩,fun _ _ _ _ _ h=>h,fun _ _ _ _ _ h=>h,fun _ _ _ _ _ h=>h,fun _ _ _ _ _ h=>h,fun _ _ _ _ _ h=>h,fun _ _ _ _ _ h=>h,fun _ _ _ _ _ h=>h,fun _ _ _ _ _ h=>h,fun _ _ _ _ _ h=>h,fun _ _ _ _ _ h=>h,trivial⟩ ?_ ?_
      ·refine ⟨?_,?_,?_,?_,?_,?_,?_,?_,?_,?_,?_,?_,?_,?_,?_,?_,?_,trivial⟩
       ·intro ρ w317o F317o hS hρ
        have q11:ρ 11=.bool (worksV):=hρ 11 (by kernel_rfl)
        exact o_q (r_mov q11) ⟨Fr.refl _ _,rfl⟩
       ·intro ρ w317o F317o hS hρ
        have q89:ρ 89=.bool (worksV):=hS 0 (by decide) 89 rfl
        exact o_q (r_mov q89) ⟨Fr.refl _ _,rfl⟩
       ·intro ρ w317o F317o hS hρ
        have q19:ρ 19=.pointer (some ⟨b195_9,0,none⟩):=hρ 19 (by kernel_rfl)
        have q90:ρ 90=.bool (worksV):=hS 1 (by decide) 90 rfl
        exact o_v (r_lda agg_buffer_Buffer q19 (vs:=(cBuf x206 A209 c210)) rfl ((hB195_b195_9.ex F317o).part (n:=3) rfl)) (want_t (t:=90) rfl q90 (of_not hc21)) rfl rfl (eo_nil ⟨rfl,rfl,_,rfl,Fr.refl _ _,rfl⟩)
       ·intro ρ w317o F317o hS hρ
        have G343:=((G103.trans (Fr.ext F120)).trans (Fr.ext F195)).trans (Fr.ext F317o)
        have q6:ρ 6=.pointer (some ⟨b12,0,none⟩):=hρ 6 (by kernel_rfl)
        have q90:ρ 90=.bool (worksV):=hS 1 (by decide) 90 rfl
        exact o_v (r_lda agg_api_Arena q6 (vs:=(cArena d1 A4 c5 A7 c8)) rfl ((S12.fr G343 (fun _ h=>h)).now.part (n:=3) rfl)) (want_t (t:=90) rfl q90 (of_not hc21)) rfl rfl (eo_nil ⟨rfl,rfl,_,rfl,Fr.refl _ _,rfl⟩)
       ·intro ρ w317o F317o hS hρ
        have q13:ρ 13=.int .i64 (IntKind.i64.wrap ((Int.tmod (IntKind.i64.wrap d2) (8:Int)) + (1:Int))):=hρ 13 (by kernel_rfl)
        have q90:ρ 90=.bool (worksV):=hS 1 (by decide) 90 rfl
        exact o_v (r_mov q13) (want_t (t:=90) rfl q90 (of_not hc21)) rfl rfl (eo_nil ⟨rfl,rfl,_,rfl,Fr.refl _ _,rfl⟩)
       ·intro ρ w317o F317o hS hρ
        have q16:ρ 16=.pointer (some ⟨b85,0,none⟩):=hρ 16 (by kernel_rfl)
        have q90:ρ 90=.bool (worksV):=hS 1 (by decide) 90 rfl
        exact o_v (r_lda agg_frame_Frame q16 (vs:=(cFrm x70.1 A82 c83)) rfl ((((B99'.ex F120).ex F195).ex F317o).part (n:=8) rfl)) (want_t (t:=90) rfl q90 (of_not hc21)) rfl rfl (eo_nil ⟨rfl,rfl,_,rfl,Fr.refl _ _,rfl⟩)
       ·intro ρ w317o F317o hS hρ
        have E364:=E307.trans F317o
        have G365:=((G101.trans (Fr.ext F120)).trans (Fr.ext F195)).trans (Fr.ext F317o)
        have G369:=((G105.trans (Fr.ext F120)).trans (Fr.ext F195)).trans (Fr.ext F317o)
        have q90:ρ 90=.bool (worksV):=hS 1 (by decide) 90 rfl
        have q91:ρ 91=.agg (cBuf x206 A209 c210).toArray:=hS 2 (by decide) 91 rfl
        have q92:ρ 92=.agg (cArena d1 A4 c5 A7 c8).toArray:=hS 3 (by decide) 92 rfl
        have q93:ρ 93=.int .i64 (IntKind.i64.wrap ((Int.tmod (IntKind.i64.wrap d2) (8:Int)) + (1:Int))):=hS 4 (by decide) 93 rfl
        have q94:ρ 94=.agg (cFrm x70.1 A82 c83).toArray:=hS 5 (by decide) 94 rfl
        refine o_call cf_push_Done (by simp only [List.map,ev,q91,q92,q93,q94] <;> rfl) (push_Done_c x206 (kBuf_mk (d:=x206) (H211.fr (Z195.trans (Fr.ext F317o)) (fun _ h=>h))) d1 (kArena_mk (d:=d1) (H6.up G365 (fun _ h=>h) (upc (.inr m301) (upc (.inr m180) (upc (.inr m87) (upc (.inr m55) (fun _ h=>.inl h)))))) (H9.up G365 (fun _ h=>h) (upc (.inr m301) (upc (.inr m180) (upc (.inr m87) (upc (.inr m55) (fun _ h=>.inl h))))))) (IntKind.i64.wrap ((Int.tmod (IntKind.i64.wrap d2) (8:Int)) + (1:Int))) x70.1 (kFrm_mk (d:=x70.1) (H84.up G369 (fun _ h=>h) (upc (.inr m305) (upc (.inr m184) (upc (.inr m91) (upc (.inl (List.Mem.head _)) (fun m hm=>Or.inl (List.Mem.tail _ hm))))))) hl81) (((((hL.fr E364).cons (((B106.ex F120).ex F195).ex F317o).lt).cons (((B99'.ex F120).ex F195).ex F317o).lt).cons ((hB120_b120_10.ex F195).ex F317o).lt).cons (hB195_b195_9.ex F317o).lt) (eq_ev hx318 (puDone_ev x206 d1 (IntKind.i64.wrap ((Int.tmod (IntKind.i64.wrap d2) (8:Int)) + (1:Int))) x70.1 ha319 ha320 ha321 ha322))) (want_t (t:=90) rfl q90 (of_not hc21)) rfl ?_
        rintro _ w' ⟨F,cs376,rfl,H377⟩
        obtain ⟨A323,c324,rfl,H325⟩:=kBuf_open H377
        exact eo_nil ⟨rfl,rfl,_,rfl,F,⟨A323,c324,rfl,H325⟩⟩
       ·intro ρ w317o F317o hS hρ
        have q19:ρ 19=.pointer (some ⟨b195_9,0,none⟩):=hρ 19 (by kernel_rfl)
        have q90:ρ 90=.bool (worksV):=hS 1 (by decide) 90 rfl
        exact o_v (r_lda agg_buffer_Buffer q19 (vs:=(cBuf x206 A209 c210)) rfl ((hB195_b195_9.ex F317o).part (n:=3) rfl)) (want_t (t:=90) rfl q90 (of_not hc21)) rfl rfl (eo_nil ⟨rfl,rfl,_,rfl,Fr.refl _ _,rfl⟩)
       ·intro ρ w317o F317o hS hρ
        have E390:=E307.trans F317o
        have q90:ρ 90=.bool (worksV):=hS 1 (by decide) 90 rfl
        obtain ⟨A323,c324,q95,H325⟩:=hS 6 (by decide) 95 rfl
        have q96:ρ 96=.agg (cBuf x206 A209 c210).toArray:=hS 7 (by decide) 96 rfl
        refine o_call cf_buffer_Same (by simp only [List.map,ev,q95,q96] <;> rfl) (buffer_Same_c x318 (kBuf_mk (d:=x318) H325) x206 (kBuf_mk (d:=x206) (H211.fr (Z195.trans (Fr.ext F317o)) (fun _ h=>h))) (((((hL.fr E390).cons (((B106.ex F120).ex F195).ex F317o).lt).cons (((B99'.ex F120).ex F195).ex F317o).lt).cons ((hB120_b120_10.ex F195).ex F317o).lt).cons (hB195_b195_9.ex F317o).lt) (bufSame_ev x318 x206 ha327)) (want_t (t:=90) rfl q90 (of_not hc21)) rfl ?_
        rintro _ w' ⟨F,rfl⟩
        exact eo_nil ⟨rfl,rfl,_,rfl,F,rfl⟩
       ·intro ρ w317o F317o hS hρ
        have q90:ρ 90=.bool (worksV):=hS 1 (by decide) 90 rfl
        have q97:ρ 97=.bool (sameB x318 x206):=hS 8 (by decide) 97 rfl
        exact o_q (r_pickT q90 (of_not hc21) q97) ⟨Fr.refl _ _,rfl⟩
       ·intro ρ w317o F317o hS hρ
        have q98:ρ 98=.bool (sameB x318 x206):=hS 9 (by decide) 98 rfl
        exact o_q (r_mov q98) ⟨Fr.refl _ _,rfl⟩
       ·intro ρ w317o F317o hS hρ
        have q19:ρ 19=.pointer (some ⟨b195_9,0,none⟩):=hρ 19 (by kernel_rfl)
        have q99:ρ 99=.bool (sameB x318 x206):=hS 10 (by decide) 99 rfl
        exact o_vg (want_ct (t:=99) rfl q99) (fun hk=>(r_fa fld_buffer_Buffer_2 rfl q19)) rfl rfl (eo_nil ⟨rfl,rfl,_,rfl,Fr.refl _ _,rfl⟩)
       ·intro ρ w317o F317o hS hρ
        have q99:ρ 99=.bool (sameB x318 x206):=hS 10 (by decide) 99 rfl
        have q100:ρ 100=(bif (sameB x318 x206) then (.pointer (some ⟨b195_9,2,none⟩):Value) else undef):=hS 11 (by decide) 100 rfl
        exact o_vg (want_ct (t:=99) rfl q99) (fun hk=>(r_ld one_s_buffer_Name (q100.trans (gdT hk)) ((hB195_b195_9.ex F317o).cell rfl))) rfl rfl (eo_nil ⟨rfl,rfl,_,rfl,Fr.refl _ _,rfl⟩)
       ·intro ρ w317o F317o hS hρ
        have q99:ρ 99=.bool (sameB x318 x206):=hS 10 (by decide) 99 rfl
        have q101:ρ 101=(bif (sameB x318 x206) then (.slice A209 x206.names.length c210:Value) else undef):=hS 12 (by decide) 101 rfl
        exact o_vg (want_ct (t:=99) rfl q99) (fun hk=>(r_len_slc un_s_buffer_Name (q101.trans (gdT hk)))) rfl rfl (eo_nil ⟨rfl,rfl,_,rfl,Fr.refl _ _,rfl⟩)
       ·intro ρ w317o F317o hS hρ
        have q99:ρ 99=.bool (sameB x318 x206):=hS 10 (by decide) 99 rfl
        have q102:ρ 102=(bif (sameB x318 x206) then (.int .i64 (x206.names.length:Int):Value) else undef):=hS 13 (by decide) 102 rfl
        exact o_vg (want_ct (t:=99) rfl q99) (fun hk=>(r_int (q102.trans (gdT hk)) rfl rfl)) rfl rfl (eo_nil ⟨rfl,rfl,_,rfl,Fr.refl _ _,rfl⟩)
       ·intro ρ w317o F317o hS hρ
        have q99:ρ 99=.bool (sameB x318 x206):=hS 10 (by decide) 99 rfl
        have q103:ρ 103=(bif (sameB x318 x206) then (.bool ((x206.names.length:Int)==(1:Int)):Value) else undef):=hS 14 (by decide) 103 rfl
        exact o_q (r_pickAnd q99 (fun ht=>(q103.trans (gdT ht))) rfl) ⟨Fr.refl _ _,rfl⟩
       ·intro ρ w317o F317o hS hρ
        have q104:ρ 104=.bool ((sameB x318 x206)&&((x206.names.length:Int)==(1:Int))):=hS 15 (by decide) 104 rfl
        exact o_q (r_asg q104) ⟨Fr.refl _ _,rfl⟩
      ·intro ρ w317 F317 hS hρ
       have q10:ρ 10=.bool ((sameB x318 x206)&&((x206.names.length:Int)==(1:Int))):=hS 16 10 rfl
       obtain ⟨ρ',rfl⟩:∃ ρ',ρ=envs (ovr [10,89,90,91,92,93,94,95,96,97,98,99,100,101,102,103,104] ρ' _) [(10,.bool ((sameB x318 x206)&&((x206.names.length:Int)==(1:Int))))]:=⟨ρ,ovr_self hρ ⟨q10,trivial⟩⟩
       have E414:=E307.trans F317
       refine sq_n ?_
       refine ec_ret ?_
       subst h
       exact (end1 rfl ⟨_,rfl,E414,rfl⟩)
end Go.Proofs.Ythfkbabgkacfnaa
