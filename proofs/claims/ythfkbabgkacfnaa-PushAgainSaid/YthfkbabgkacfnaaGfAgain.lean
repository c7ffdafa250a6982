/- The law PushAgain: what it comes to. -/
import Derived.Test.YthfkbabgkacfnaaPx
namespace Go.Proofs.Ythfkbabgkacfnaa
open Go Go.RowKit
set_option linter.unusedVariables false
set_option linter.unusedSimpArgs false
def law17_PushAgain_raw (d0:Buf) (d1:Arena) (d2:Int) (d3:Int) (y:Bool):Prop :=
 ((!(worksV))=true→(y=false))∧((!(worksV))=false→((smC d0)∧((sma d1)∧(∃ x33,x33=(mendB d0 d1 (IntKind.i64.wrap ((Int.tmod (IntKind.i64.wrap d2) (7:Int)) + (1:Int))))∧(((!(!((fewB d0)&&(fewA d1))))=true→sma d1)∧((((((((!((fewB d0)&&(fewA d1)))||((checkA d1) != (0:Int)))||((d1.slots.length:Int)==(0:Int)))||((x33.names.length:Int)==(0:Int)))||(decide ((IntKind.i64.wrap ((Int.tmod (IntKind.i64.wrap d2) (7:Int)) + (1:Int)))≤(x33.names.length:Int))))||(decide ((2147483000:Int)<x33.first)))=true→(y=(worksV)))∧(((((((!((fewB d0)&&(fewA d1)))||((checkA d1) != (0:Int)))||((d1.slots.length:Int)==(0:Int)))||((x33.names.length:Int)==(0:Int)))||(decide ((IntKind.i64.wrap ((Int.tmod (IntKind.i64.wrap d2) (7:Int)) + (1:Int)))≤(x33.names.length:Int))))||(decide ((2147483000:Int)<x33.first)))=false→((smB d0)∧((sma d1)∧(∃ x71,x71=(sendP d0 d1 (IntKind.i64.wrap ((Int.tmod (IntKind.i64.wrap d2) (7:Int)) + (1:Int))) (1:Int))∧((smB d0)∧((sma d1)∧(∃ x108,x108=(sendP d0 d1 (IntKind.i64.wrap ((Int.tmod (IntKind.i64.wrap d2) (7:Int)) + (1:Int))) (1:Int))∧(((d1.slots.length:Int)==(0:Int))=false∧((0≤(Int.tmod (IntKind.i64.wrap d3) (d1.slots.length:Int))∧(Int.tmod (IntKind.i64.wrap d3) (d1.slots.length:Int))<(d1.slots.length:Int))∧(smN d0∧(sma d1∧(∃ x178,x178=(noteB d0 d1 (IntKind.i64.wrap ((Int.tmod (IntKind.i64.wrap d2) (7:Int)) + (1:Int))) (nth d1.slots (Int.tmod (IntKind.i64.wrap d3) (d1.slots.length:Int))))∧((smB x178)∧((sma d1)∧(∃ x295,x295=(sendP x178 d1 (IntKind.i64.wrap ((Int.tmod (IntKind.i64.wrap d2) (7:Int)) + (1:Int))) (1:Int))∧((((x71.2&&x108.2)&&x295.2)=true→sml x71.1.entries)∧(((((x71.2&&x108.2)&&x295.2)&&(sameF x71.1 x108.1))=true→sml x71.1.entries)∧(y=((((x71.2&&x108.2)&&x295.2)&&(sameF x71.1 x108.1))&&(sameF x71.1 x295.1))))))))))))))))))))))))))
set_option maxRecDepth 20000 in
set_option maxHeartbeats 4000000 in
theorem law17_PushAgain_c {L:List Nat} {w:World} {csP0:List Value} (d0:Buf) (HP0:Stb L w (fun w=>kBuf.r w csP0 d0)) {csP1:List Value} (d1:Arena) (HP1:Stb L w (fun w=>kArena.r w csP1 d1)) (d2:Int) (d3:Int) (hL:Lt L w) {y:Bool} (h:law17_PushAgain_raw d0 d1 d2 d3 y) :
  Calls Try.prog 7 [.agg csP0.toArray,.agg csP1.toArray,.int .u8 d2,.int .u8 d3].toArray w (Ret fun v w'=>Ext w w'∧v=.bool y):=by
 obtain ⟨A1,c2,rfl,H3⟩:=kBuf_open HP0
 obtain ⟨A4,c5,A7,c8,rfl,H6,H9⟩:=kArena_open HP1
 unfold law17_PushAgain_raw at h
 refine calls_ec Try.func7 rfl rfl rfl ?_
 refine ec_seq ?_
 refine ec_region ?_
 refine o_box (cs:=(cBuf d0 A1 c2)) rfl rfl rfl ?_
 intro b10 w10 e10 F10 B10
 have S10:=B10.stb (nin hL e10)
 have G11:Fr L w w10:=Fr.ext F10
 refine o_box (cs:=(cArena d1 A4 c5 A7 c8)) rfl rfl rfl ?_
 intro b12 w12 e12 F12 B12
 have S12:=B12.stb (nin (hL.fr F10) e12)
 have E13:=F10.trans F12
 have G15:Fr L w10 w12:=Fr.ext F12
 refine o_w (v:=.bool false) (r_asg rfl) ?_
 refine eo_nil_sq ?_
 refine ec_seq ?_
 refine ec_region ?_
 refine o_call cf_law17_works rfl (law17_works_c (hL.fr E13) (works17_ev)) rfl rfl ?_
 rintro _ w16 ⟨F16,rfl⟩
 have E17:=E13.trans F16
 have G20:Fr L w12 w16:=Fr.ext F16
 refine o_w (v:=.bool (worksV)) (r_asg rfl) ?_
 refine eo_nil_sq ?_
 iterate 2 refine ec_seq ?_
 refine ec_region ?_
 refine o_w (v:=.bool (worksV)) (r_mov rfl) ?_
 refine o_w (v:=.bool (!(worksV))) (r_not rfl) ?_
 refine eo_nil_sq ?_
 refine ec_cond rfl (fun hc21=>?_) (fun hc21=>?_)
 ·replace h:=h.1 hc21
  refine ec_seq ?_
  refine ec_region ?_
  refine o_w (v:=.bool false) (r_asg rfl) ?_
  refine eo_nil_sq ?_
  refine ec_ret ?_
  refine sq_ret ?_
  subst h
  exact (end1 rfl ⟨_,rfl,E17,rfl⟩)
 ·replace h:=h.2 hc21
  refine ec_skip ?_
  refine sq_n ?_
  refine ec_seq ?_
  refine ec_region ?_
  refine o_w (v:=.agg (cBuf d0 A1 c2).toArray) (r_lda agg_buffer_Buffer rfl (vs:=(cBuf d0 A1 c2)) rfl ((S10.fr (G15.trans (Fr.ext F16)) (fun _ h=>h)).now.part (n:=3) rfl)) ?_
  refine o_call cf_law16_Few rfl (law16_Few_c d0 (kBuf_mk (d:=d0) (H3.fr ((G11.trans (Fr.ext F12)).trans (Fr.ext F16)) (fun _ h=>h))) (hL.fr E17) (fewB_ev d0)) rfl rfl ?_
  rintro _ w23 ⟨F23,rfl⟩
  have E24:=E17.trans F23
  refine o_w (v:=.bool (fewB d0)) (r_mov rfl) ?_
  refine o_vg (v:=.agg (cArena d1 A4 c5 A7 c8).toArray) (want_ct (t:=25) rfl rfl) (fun hk=>(r_lda agg_api_Arena rfl (vs:=(cArena d1 A4 c5 A7 c8)) rfl ((S12.fr (G20.trans (Fr.ext F23)) (fun _ h=>h)).now.part (n:=3) rfl))) rfl rfl ?_
  refine o_callg (V:=.bool (fewA d1)) cf_law08_Few (want_ct (t:=25) rfl rfl) (fun hk=>(mapv1 (gdT hk))) (fun hk=>(law08_Few_c d1 (kArena_mk (d:=d1) (H6.fr (((G11.trans (Fr.ext F12)).trans (Fr.ext F16)).trans (Fr.ext F23)) (fun _ h=>h)) (H9.fr (((G11.trans (Fr.ext F12)).trans (Fr.ext F16)).trans (Fr.ext F23)) (fun _ h=>h))) (hL.fr E24) (fewA_ev d1))) rfl ?_
  intro w28 F28
  have E29:=E24.trans F28
  have G30:=(((G11.trans (Fr.ext F12)).trans (Fr.ext F16)).trans (Fr.ext F23)).trans (Fr.ext F28)
  refine o_w (v:=.bool ((fewB d0)&&(fewA d1))) (r_pickAnd rfl (fun ht=>(gdT ht)) rfl) ?_
  refine o_w (v:=.bool ((fewB d0)&&(fewA d1))) (r_asg rfl) ?_
  refine eo_nil_sq ?_
  refine ec_seq ?_
  refine ec_region ?_
  refine o_w (v:=.int .u8 d2) (r_mov rfl) ?_
  refine o_w (v:=.int .i64 (IntKind.i64.wrap d2)) (r_conv un_uint8 un_int rfl) ?_
  refine o_w (v:=.int .i64 (Int.tmod (IntKind.i64.wrap d2) (7:Int))) (r_rem rfl rfl rfl) ?_
  refine o_w (v:=.int .i64 (IntKind.i64.wrap ((Int.tmod (IntKind.i64.wrap d2) (7:Int)) + (1:Int)))) (r_int rfl rfl rfl) ?_
  refine o_w (v:=.int .i64 (IntKind.i64.wrap ((Int.tmod (IntKind.i64.wrap d2) (7:Int)) + (1:Int)))) (r_asg rfl) ?_
  refine eo_nil_sq ?_
  refine ec_seq ?_
  refine ec_region ?_
  refine o_w (v:=.agg (cBuf d0 A1 c2).toArray) (r_lda agg_buffer_Buffer rfl (vs:=(cBuf d0 A1 c2)) rfl ((S10.fr (((G15.trans (Fr.ext F16)).trans (Fr.ext F23)).trans (Fr.ext F28)) (fun _ h=>h)).now.part (n:=3) rfl)) ?_
  refine o_w (v:=.agg (cArena d1 A4 c5 A7 c8).toArray) (r_lda agg_api_Arena rfl (vs:=(cArena d1 A4 c5 A7 c8)) rfl ((S12.fr ((G20.trans (Fr.ext F23)).trans (Fr.ext F28)) (fun _ h=>h)).now.part (n:=3) rfl)) ?_
  refine o_w (v:=.int .i64 (IntKind.i64.wrap ((Int.tmod (IntKind.i64.wrap d2) (7:Int)) + (1:Int)))) (r_mov rfl) ?_
  obtain ⟨ha34,h⟩:=h
  obtain ⟨ha35,h⟩:=h
  obtain ⟨x33,hx33,h⟩:=h
  refine o_call cf_buffer_Mend rfl (buffer_Mend_c d0 (kBuf_mk (d:=d0) (H3.fr G30 (fun _ h=>h))) d1 (kArena_mk (d:=d1) (H6.fr G30 (fun _ h=>h)) (H9.fr G30 (fun _ h=>h))) (IntKind.i64.wrap ((Int.tmod (IntKind.i64.wrap d2) (7:Int)) + (1:Int))) (hL.fr E29) (eq_ev hx33 (bufMend_evC d0 d1 (IntKind.i64.wrap ((Int.tmod (IntKind.i64.wrap d2) (7:Int)) + (1:Int))) ha34 ha35))) rfl rfl ?_
  rintro _ w33 ⟨F33,cs36,rfl,H37⟩
  have E38:=E29.trans F33
  have G40:=(((G15.trans (Fr.ext F16)).trans (Fr.ext F23)).trans (Fr.ext F28)).trans (Fr.ext F33)
  obtain ⟨A42,c43,rfl,H44⟩:=kBuf_open H37
  refine o_alloc zero_buffer_Buffer rfl rfl rfl ?_
  intro b45 w45 e45 F45 B45
  have n45:w.heap.size≤b45:=by rw [e45]; exact E38.size
  have m46:w.heap.size≤b45:=by rw [e45]; exact (G30.trans (Fr.ext F33)).size
  have m47:w10.heap.size≤b45:=by rw [e45]; exact G40.size
  have m48:w12.heap.size≤b45:=by rw [e45]; exact (((G20.trans (Fr.ext F23)).trans (Fr.ext F28)).trans (Fr.ext F33)).size
  have E50:=E38.trans F45
  have G53:=(((G20.trans (Fr.ext F23)).trans (Fr.ext F28)).trans (Fr.ext F33)).trans (Fr.ext F45)
  refine o_store rfl B45 (vs:=(cBuf x33 A42 c43)) rfl sz_buffer_Buffer rfl rfl rfl ?_
  intro w55 F55 B55
  have E56:=Ext.st E50 F55 (by simp; omega)
  have G57:Fr L w w55:=((G30.trans (Fr.ext F33)).trans (Fr.ext F45)).stp F55 (upc (.inr m46) (fun m hm=>by cases hm))
  have G58:Fr L w10 w55:=(G40.trans (Fr.ext F45)).stp F55 (upc (.inr m47) (fun m hm=>by cases hm))
  have G59:Fr L w12 w55:=G53.stp F55 (upc (.inr m48) (fun m hm=>by cases hm))
  have B55':Blk w55 b45 _ (cBuf x33 A42 c43):=B55
  refine eo_nil_sq ?_
  iterate 2 refine ec_seq ?_
  refine ec_region ?_
  refine o_w (v:=.bool ((fewB d0)&&(fewA d1))) (r_mov rfl) ?_
  refine o_w (v:=.bool (!((fewB d0)&&(fewA d1)))) (r_not rfl) ?_
  refine o_w (v:=.bool (!((fewB d0)&&(fewA d1)))) (r_mov rfl) ?_
  refine o_vg (v:=.agg (cArena d1 A4 c5 A7 c8).toArray) (want_cf (t:=39) rfl rfl) (fun hk=>(r_lda agg_api_Arena rfl (vs:=(cArena d1 A4 c5 A7 c8)) rfl ((S12.fr G59 (fun _ h=>h)).now.part (n:=3) rfl))) rfl rfl ?_
  obtain ⟨ha63,h⟩:=h
  refine o_callg (V:=.int .i64 (checkA d1)) cf_arena_Check (want_cf (t:=39) rfl rfl) (fun hk=>(mapv1 (gdT hk))) (fun hk=>(arena_Check_c d1 (kArena_mk (d:=d1) (H6.up G57 (fun _ h=>h) (upc (.inr m46) (fun _ h=>.inl h))) (H9.up G57 (fun _ h=>h) (upc (.inr m46) (fun _ h=>.inl h)))) ((hL.fr E56).cons B55'.lt) (arCheck_ev d1 (ha63 hk)))) rfl ?_
  intro w62 F62
  have E64:=E56.trans F62
  refine o_vg (v:=.bool ((checkA d1) != (0:Int))) (want_cf (t:=39) rfl rfl) (fun hk=>(r_int (gdT hk) rfl rfl)) rfl rfl ?_
  refine o_w (v:=.bool ((!((fewB d0)&&(fewA d1)))||((checkA d1) != (0:Int)))) (r_pickOr rfl rfl (fun hf=>(gdT (notT hf)))) ?_
  refine o_w (v:=.bool ((!((fewB d0)&&(fewA d1)))||((checkA d1) != (0:Int)))) (r_mov rfl) ?_
  refine o_vg (v:=.pointer (some ⟨b12,1,none⟩)) (want_cf (t:=44) rfl rfl) (fun hk=>(r_fa fld_api_Arena_1 rfl rfl)) rfl rfl ?_
  refine o_vg (v:=.slice A4 d1.slots.length c5) (want_cf (t:=44) rfl rfl) (fun hk=>(r_ld one_s_api_Entry (gdT hk) ((S12.fr (G59.trans (Fr.ext F62)) (fun _ h=>h)).now.cell rfl))) rfl rfl ?_
  refine o_vg (v:=.int .i64 (d1.slots.length:Int)) (want_cf (t:=44) rfl rfl) (fun hk=>(r_len_slc un_s_api_Entry (gdT hk))) rfl rfl ?_
  refine o_vg (v:=.bool ((d1.slots.length:Int)==(0:Int))) (want_cf (t:=44) rfl rfl) (fun hk=>(r_int (gdT hk) rfl rfl)) rfl rfl ?_
  refine o_w (v:=.bool (((!((fewB d0)&&(fewA d1)))||((checkA d1) != (0:Int)))||((d1.slots.length:Int)==(0:Int)))) (r_pickOr rfl rfl (fun hf=>(gdT (notT hf)))) ?_
  refine o_w (v:=.bool (((!((fewB d0)&&(fewA d1)))||((checkA d1) != (0:Int)))||((d1.slots.length:Int)==(0:Int)))) (r_mov rfl) ?_
  refine o_vg (v:=.pointer (some ⟨b45,2,none⟩)) (want_cf (t:=50) rfl rfl) (fun hk=>(r_fa fld_buffer_Buffer_2 rfl rfl)) rfl rfl ?_
  refine o_vg (v:=.slice A42 x33.names.length c43) (want_cf (t:=50) rfl rfl) (fun hk=>(r_ld one_s_buffer_Name (gdT hk) ((B55'.ex F62).cell rfl))) rfl rfl ?_
  refine o_vg (v:=.int .i64 (x33.names.length:Int)) (want_cf (t:=50) rfl rfl) (fun hk=>(r_len_slc un_s_buffer_Name (gdT hk))) rfl rfl ?_
  refine o_vg (v:=.bool ((x33.names.length:Int)==(0:Int))) (want_cf (t:=50) rfl rfl) (fun hk=>(r_int (gdT hk) rfl rfl)) rfl rfl ?_
  refine o_w (v:=.bool ((((!((fewB d0)&&(fewA d1)))||((checkA d1) != (0:Int)))||((d1.slots.length:Int)==(0:Int)))||((x33.names.length:Int)==(0:Int)))) (r_pickOr rfl rfl (fun hf=>(gdT (notT hf)))) ?_
  refine o_w (v:=.bool ((((!((fewB d0)&&(fewA d1)))||((checkA d1) != (0:Int)))||((d1.slots.length:Int)==(0:Int)))||((x33.names.length:Int)==(0:Int)))) (r_mov rfl) ?_
  refine o_vg (v:=.pointer (some ⟨b45,2,none⟩)) (want_cf (t:=56) rfl rfl) (fun hk=>(r_fa fld_buffer_Buffer_2 rfl rfl)) rfl rfl ?_
  refine o_vg (v:=.slice A42 x33.names.length c43) (want_cf (t:=56) rfl rfl) (fun hk=>(r_ld one_s_buffer_Name (gdT hk) ((B55'.ex F62).cell rfl))) rfl rfl ?_
  refine o_vg (v:=.int .i64 (x33.names.length:Int)) (want_cf (t:=56) rfl rfl) (fun hk=>(r_len_slc un_s_buffer_Name (gdT hk))) rfl rfl ?_
  refine o_vg (v:=.int .i64 (IntKind.i64.wrap ((Int.tmod (IntKind.i64.wrap d2) (7:Int)) + (1:Int)))) (want_cf (t:=56) rfl rfl) (fun hk=>(r_mov rfl)) rfl rfl ?_
  refine o_vg (v:=.bool (decide ((IntKind.i64.wrap ((Int.tmod (IntKind.i64.wrap d2) (7:Int)) + (1:Int)))≤(x33.names.length:Int)))) (want_cf (t:=56) rfl rfl) (fun hk=>(r_int (gdT hk) (gdT hk) rfl)) rfl rfl ?_
  refine o_w (v:=.bool (((((!((fewB d0)&&(fewA d1)))||((checkA d1) != (0:Int)))||((d1.slots.length:Int)==(0:Int)))||((x33.names.length:Int)==(0:Int)))||(decide ((IntKind.i64.wrap ((Int.tmod (IntKind.i64.wrap d2) (7:Int)) + (1:Int)))≤(x33.names.length:Int))))) (r_pickOr rfl rfl (fun hf=>(gdT (notT hf)))) ?_
  refine o_w (v:=.bool (((((!((fewB d0)&&(fewA d1)))||((checkA d1) != (0:Int)))||((d1.slots.length:Int)==(0:Int)))||((x33.names.length:Int)==(0:Int)))||(decide ((IntKind.i64.wrap ((Int.tmod (IntKind.i64.wrap d2) (7:Int)) + (1:Int)))≤(x33.names.length:Int))))) (r_mov rfl) ?_
  refine o_vg (v:=.pointer (some ⟨b45,1,none⟩)) (want_cf (t:=63) rfl rfl) (fun hk=>(r_fa fld_buffer_Buffer_1 rfl rfl)) rfl rfl ?_
  refine o_vg (v:=.int .i64 x33.first) (want_cf (t:=63) rfl rfl) (fun hk=>(r_ld one_int (gdT hk) ((B55'.ex F62).cell rfl))) rfl rfl ?_
  refine o_vg (v:=.bool (decide ((2147483000:Int)<x33.first))) (want_cf (t:=63) rfl rfl) (fun hk=>(r_int (gdT hk) rfl rfl)) rfl rfl ?_
  refine o_w (v:=.bool ((((((!((fewB d0)&&(fewA d1)))||((checkA d1) != (0:Int)))||((d1.slots.length:Int)==(0:Int)))||((x33.names.length:Int)==(0:Int)))||(decide ((IntKind.i64.wrap ((Int.tmod (IntKind.i64.wrap d2) (7:Int)) + (1:Int)))≤(x33.names.length:Int))))||(decide ((2147483000:Int)<x33.first)))) (r_pickOr rfl rfl (fun hf=>(gdT (notT hf)))) ?_
  refine eo_nil_sq ?_
  refine ec_cond rfl (fun hc70=>?_) (fun hc70=>?_)
  ·replace h:=h.1 hc70
   refine ec_seq ?_
   refine ec_region ?_
   refine o_w (v:=.bool (worksV)) (r_mov rfl) ?_
   refine o_w (v:=.bool (worksV)) (r_asg rfl) ?_
   refine eo_nil_sq ?_
   refine ec_ret ?_
   refine sq_ret ?_
   subst h
   exact (end1 rfl ⟨_,rfl,E64,rfl⟩)
  ·replace h:=h.2 hc70
   refine ec_skip ?_
   refine sq_n ?_
   refine ec_seq ?_
   refine ec_region ?_
   refine o_w (v:=.agg (cBuf d0 A1 c2).toArray) (r_lda agg_buffer_Buffer rfl (vs:=(cBuf d0 A1 c2)) rfl ((S10.fr (G58.trans (Fr.ext F62)) (fun _ h=>h)).now.part (n:=3) rfl)) ?_
   refine o_w (v:=.agg (cArena d1 A4 c5 A7 c8).toArray) (r_lda agg_api_Arena rfl (vs:=(cArena d1 A4 c5 A7 c8)) rfl ((S12.fr (G59.trans (Fr.ext F62)) (fun _ h=>h)).now.part (n:=3) rfl)) ?_
   refine o_w (v:=.int .i64 (IntKind.i64.wrap ((Int.tmod (IntKind.i64.wrap d2) (7:Int)) + (1:Int)))) (r_mov rfl) ?_
   obtain ⟨ha72,h⟩:=h
   obtain ⟨ha73,h⟩:=h
   obtain ⟨x71,hx71,h⟩:=h
   refine o_call cf_push_Send rfl (push_Send_c d0 (kBuf_mk (d:=d0) (H3.up (G57.trans (Fr.ext F62)) (fun _ h=>h) (upc (.inr m46) (fun _ h=>.inl h)))) d1 (kArena_mk (d:=d1) (H6.up (G57.trans (Fr.ext F62)) (fun _ h=>h) (upc (.inr m46) (fun _ h=>.inl h))) (H9.up (G57.trans (Fr.ext F62)) (fun _ h=>h) (upc (.inr m46) (fun _ h=>.inl h)))) (IntKind.i64.wrap ((Int.tmod (IntKind.i64.wrap d2) (7:Int)) + (1:Int))) (1:Int) ((hL.fr E64).cons (B55'.ex F62).lt) (eq_ev hx71 (puSend_ev d0 d1 (IntKind.i64.wrap ((Int.tmod (IntKind.i64.wrap d2) (7:Int)) + (1:Int))) (1:Int) ha72 ha73))) rfl rfl ?_
   rintro _ w71 ⟨F71,cs74,rfl,H75⟩
   have E76:=E64.trans F71
   obtain ⟨A83,c84,rfl,H85,hl82⟩:=kFrm_open H75
   refine o_w (v:=.tuple #[.agg (cFrm x71.1 A83 c84).toArray,.bool x71.2]) (r_mov rfl) ?_
   refine o_w (v:=.agg (cFrm x71.1 A83 c84).toArray) (r_ext rfl rfl) ?_
   refine o_w (v:=.bool x71.2) (r_ext rfl rfl) ?_
   refine o_alloc zero_frame_Frame rfl rfl rfl ?_
   intro b86 w86 e86 F86 B86
   have n86:w.heap.size≤b86:=by rw [e86]; exact E76.size
   have q87:b45<b86:=by rw [e86]; exact ((B55'.ex F62).ex F71).lt
   have m88:w.heap.size≤b86:=by rw [e86]; exact ((G57.trans (Fr.ext F62)).trans (Fr.ext F71)).size
   have m89:w10.heap.size≤b86:=by rw [e86]; exact ((G58.trans (Fr.ext F62)).trans (Fr.ext F71)).size
   have m90:w12.heap.size≤b86:=by rw [e86]; exact ((G59.trans (Fr.ext F62)).trans (Fr.ext F71)).size
   have m92:w71.heap.size≤b86:=Nat.le_of_eq e86.symm
   have E93:=E76.trans F86
   have G98:Fr (b45::L) w71 w86:=Fr.ext F86
   refine o_store rfl B86 (vs:=(cFrm x71.1 A83 c84)) rfl sz_frame_Frame rfl rfl rfl ?_
   intro w100 F100 B100
   have E101:=Ext.st E93 F100 (by simp; omega)
   have G102:Fr L w w100:=(((G57.trans (Fr.ext F62)).trans (Fr.ext F71)).trans (Fr.ext F86)).stp F100 (upc (.inr m88) (fun m hm=>by cases hm))
   have G103:Fr L w10 w100:=(((G58.trans (Fr.ext F62)).trans (Fr.ext F71)).trans (Fr.ext F86)).stp F100 (upc (.inr m89) (fun m hm=>by cases hm))
   have G104:Fr L w12 w100:=(((G59.trans (Fr.ext F62)).trans (Fr.ext F71)).trans (Fr.ext F86)).stp F100 (upc (.inr m90) (fun m hm=>by cases hm))
   have G106:Fr (b45::L) w71 w100:=G98.stp F100 (upc (.inr m92) (fun m hm=>by cases hm))
   have B107:=(((B55'.ex F62).ex F71).ex F86).fr F100 (by simp; omega)
   have B100':Blk w100 b86 _ (cFrm x71.1 A83 c84):=B100
   refine o_w (v:=.bool x71.2) (r_asg rfl) ?_
   refine eo_nil_sq ?_
   refine ec_seq ?_
   refine ec_region ?_
   refine o_w (v:=.agg (cBuf d0 A1 c2).toArray) (r_lda agg_buffer_Buffer rfl (vs:=(cBuf d0 A1 c2)) rfl ((S10.fr G103 (fun _ h=>h)).now.part (n:=3) rfl)) ?_
   refine o_w (v:=.agg (cArena d1 A4 c5 A7 c8).toArray) (r_lda agg_api_Arena rfl (vs:=(cArena d1 A4 c5 A7 c8)) rfl ((S12.fr G104 (fun _ h=>h)).now.part (n:=3) rfl)) ?_
   refine o_w (v:=.int .i64 (IntKind.i64.wrap ((Int.tmod (IntKind.i64.wrap d2) (7:Int)) + (1:Int)))) (r_mov rfl) ?_
   obtain ⟨ha109,h⟩:=h
   obtain ⟨ha110,h⟩:=h
   obtain ⟨x108,hx108,h⟩:=h
   refine o_call cf_push_Send rfl (push_Send_c d0 (kBuf_mk (d:=d0) (H3.up G102 (fun _ h=>h) (upc (.inr m88) (upc (.inr m46) (fun _ h=>.inl h))))) d1 (kArena_mk (d:=d1) (H6.up G102 (fun _ h=>h) (upc (.inr m88) (upc (.inr m46) (fun _ h=>.inl h)))) (H9.up G102 (fun _ h=>h) (upc (.inr m88) (upc (.inr m46) (fun _ h=>.inl h))))) (IntKind.i64.wrap ((Int.tmod (IntKind.i64.wrap d2) (7:Int)) + (1:Int))) (1:Int) (((hL.fr E101).cons B107.lt).cons B100'.lt) (eq_ev hx108 (puSend_ev d0 d1 (IntKind.i64.wrap ((Int.tmod (IntKind.i64.wrap d2) (7:Int)) + (1:Int))) (1:Int) ha109 ha110))) rfl rfl ?_
   rintro _ w108 ⟨F108,cs111,rfl,H112⟩
   have E113:=E101.trans F108
   obtain ⟨A122,c123,rfl,H124,hl121⟩:=kFrm_open H112
   refine o_w (v:=.tuple #[.agg (cFrm x108.1 A122 c123).toArray,.bool x108.2]) (r_mov rfl) ?_
   refine o_w (v:=.agg (cFrm x108.1 A122 c123).toArray) (r_ext rfl rfl) ?_
   refine o_w (v:=.bool x108.2) (r_ext rfl rfl) ?_
   refine o_alloc zero_frame_Frame rfl rfl rfl ?_
   intro b125 w125 e125 F125 B125
   have n125:w.heap.size≤b125:=by rw [e125]; exact E113.size
   have q126:b45<b125:=by rw [e125]; exact (B107.ex F108).lt
   have q127:b86<b125:=by rw [e125]; exact (B100'.ex F108).lt
   have m128:w.heap.size≤b125:=by rw [e125]; exact (G102.trans (Fr.ext F108)).size
   have m129:w10.heap.size≤b125:=by rw [e125]; exact (G103.trans (Fr.ext F108)).size
   have m130:w12.heap.size≤b125:=by rw [e125]; exact (G104.trans (Fr.ext F108)).size
   have m132:w71.heap.size≤b125:=by rw [e125]; exact (G106.trans (Fr.ext F108)).size
   have m133:w108.heap.size≤b125:=Nat.le_of_eq e125.symm
   have E134:=E113.trans F125
   have G140:Fr (b86::(b45::L)) w108 w125:=Fr.ext F125
   refine o_store rfl B125 (vs:=(cFrm x108.1 A122 c123)) rfl sz_frame_Frame rfl rfl rfl ?_
   intro w143 F143 B143
   have E144:=Ext.st E134 F143 (by simp; omega)
   have G145:Fr L w w143:=((G102.trans (Fr.ext F108)).trans (Fr.ext F125)).stp F143 (upc (.inr m128) (fun m hm=>by cases hm))
   have G146:Fr L w10 w143:=((G103.trans (Fr.ext F108)).trans (Fr.ext F125)).stp F143 (upc (.inr m129) (fun m hm=>by cases hm))
   have G147:Fr L w12 w143:=((G104.trans (Fr.ext F108)).trans (Fr.ext F125)).stp F143 (upc (.inr m130) (fun m hm=>by cases hm))
   have G149:Fr (b45::L) w71 w143:=((G106.trans (Fr.ext F108)).trans (Fr.ext F125)).stp F143 (upc (.inr m132) (fun m hm=>by cases hm))
   have G150:Fr (b86::(b45::L)) w108 w143:=G140.stp F143 (upc (.inr m133) (fun m hm=>by cases hm))
   have B151:=((B107.ex F108).ex F125).fr F143 (by simp; omega)
   have B152:=((B100'.ex F108).ex F125).fr F143 (by simp; omega)
   have B143':Blk w143 b125 _ (cFrm x108.1 A122 c123):=B143
   refine o_w (v:=.bool x108.2) (r_asg rfl) ?_
   refine eo_nil_sq ?_
   refine ec_seq ?_
   obtain ⟨ha166,h⟩:=h
   obtain ⟨ha167,h⟩:=h
   obtain ⟨cs168,l170,H169⟩:=Stb.elem (by decide) (H6.up G145 (fun _ h=>h) (upc (.inr m128) (upc (.inr m88) (upc (.inr m46) (fun _ h=>.inl h))))) (Int.tmod (IntKind.i64.wrap d3) (d1.slots.length:Int)) ha167.1 ha167.2
   obtain ⟨A172,c173,A175,c176,rfl,H171,H174,H177⟩:=kEnt_open2 H169
   obtain ⟨ha179,h⟩:=h
   obtain ⟨ha180,h⟩:=h
   obtain ⟨x178,hx178,h⟩:=h
   refine ec_anyGN (by kernel_rfl) [[],[],[],[],[3],[],[5],[],[7],[7,8],[5,6,7,8,9],[3,4,5,6,7,8,9,10],[3,4,5,6,7,8,9,10,11],[0,1,2,3,4,5,6,7,8,9,10,11,12],[],[0,1,2,3,4,5,6,7,8,9,10,11,12,13,14]] [17,83,84,85,86,87,88,89,90,91,92,93,94,95,96] [] [15] 14 0 (fun g w=>∀ b,g=gOf b→Blk w b 24 [.int .i64 (0:Int),.int .i64 (0:Int),.slice none ([]:List Nm).length 0]) (fun g165=>[own g165]) [[15]] (fun g165=>[fun w'=>(∀ b,g165=gOf b→Blk w' b 24 [.int .i64 (0:Int),.int .i64 (0:Int),.slice none ([]:List Nm).length 0]),fun w'=>∃ A181 c182,Stb (own g165++(b125::(b86::(b45::L)))) w' (fun w=>SlC kNm w A181 c182 x178.names)∧(∀ b,g165=gOf b→Blk w' b 24 (cBuf x178 A181 c182))]) (fun g165=>[fun v _=>v=(.agg (cBuf d0 A1 c2).toArray:Value),fun v _=>v=(.agg (cArena d1 A4 c5 A7 c8).toArray:Value),fun v _=>v=(.int .i64 (IntKind.i64.wrap ((Int.tmod (IntKind.i64.wrap d2) (7:Int)) + (1:Int))):Value),fun v _=>v=(.pointer (some ⟨b12,1,none⟩):Value),fun v _=>v=(.slice A4 d1.slots.length c5:Value),fun v _=>v=(.int .u8 d3:Value),fun v _=>v=(.int .i64 (IntKind.i64.wrap d3):Value),fun v _=>v=(.pointer (some ⟨b12,1,none⟩):Value),fun v _=>v=(.slice A4 d1.slots.length c5:Value),fun v _=>v=(.int .i64 (d1.slots.length:Int):Value),fun v _=>v=(.int .i64 (Int.tmod (IntKind.i64.wrap d3) (d1.slots.length:Int)):Value),fun v _=>v=(.pointer (some (elemA A4 kEnt.n (Int.tmod (IntKind.i64.wrap d3) (d1.slots.length:Int)).toNat)):Value),fun v _=>v=(.agg (cEnt (nth d1.slots (Int.tmod (IntKind.i64.wrap d3) (d1.slots.length:Int))) A172 c173 A175 c176).toArray:Value),fun v w'=>∃ A181 c182,v=(.agg (cBuf x178 A181 c182).toArray:Value)∧Stb (own g165++(b125::(b86::(b45::L)))) w' (fun w=>SlC kNm w A181 c182 x178.names),fun v w'=>∃ b165_14,v=(.pointer (some ⟨b165_14,0,none⟩):Value)∧g165=gOf b165_14∧w143.heap.size≤b165_14,fun _ _=>True]) (by kernel_rfl) (fun _=>rfl) (fun _=>rfl) (fun g165=>(allM1 (φ:=fun M=>∀ m∈M,m∈[]∨m∈own g165) (fun m hm=>.inr hm) (fun _ h=>by cases h))) (fun g165=>⟨fun _ _ _ _ _ h=>h,fun _ _ _ _ _ h=>h,fun _ _ _ _ _ h=>h,fun _ _ _ _ _ h=>h,fun _ _ _ _ _ h=>h,fun _ _ _ _ _ h=>h,fun _ _ _ _ _ h=>h,fun _ _ _ _ _ h=>h,fun _ _ _ _ _ h=>h,fun _ _ _ _ _ h=>h,fun _ _ _ _ _ h=>h,fun _ _ _ _ _ h=>h,fun _ _ _ _ _ h=>h,fun _ v w' w'' F h=>by obtain ⟨A181,c182,hv,H183⟩:=h; exact ⟨A181,c182,hv,(H183.ex F)⟩,fun _ v w' w'' F h=>by obtain ⟨b165_14,hv,heb165_14,lob165_14⟩:=h; exact ⟨b165_14,hv,heb165_14,lob165_14⟩,fun _ _ _ _ _ h=>h,trivial⟩) (fun g165=>⟨⟨fun _ _ _ _ _ _ h=>h,fun _ _ _ _ _ _ h=>h,fun _ _ _ _ _ _ h=>h,fun _ _ _ _ _ _ h=>h,fun _ _ _ _ _ _ h=>h,fun _ _ _ _ _ _ h=>h,fun _ _ _ _ _ _ h=>h,fun _ _ _ _ _ _ h=>h,fun _ _ _ _ _ _ h=>h,fun _ _ _ _ _ _ h=>h,fun _ _ _ _ _ _ h=>h,fun _ _ _ _ _ _ h=>h,fun _ _ _ _ _ _ h=>h,fun _ v w' w'' hg165 F h=>by obtain ⟨A181,c182,hv,H183⟩:=h; exact ⟨A181,c182,hv,(H183.fr F (fun m hm=>List.mem_append_left _ hm))⟩,fun _ v w' w'' hg165 F h=>by obtain ⟨b165_14,hv,heb165_14,lob165_14⟩:=h; exact ⟨b165_14,hv,heb165_14,lob165_14⟩,(fun h=>absurd h (by decide)),trivial⟩,trivial⟩) (fun g w hw hg=>⟨fun _ _ _ _ h=>h,fun _ _ _ _ h=>h,fun _ _ _ _ h=>h,fun _ _ _ _ h=>h,fun _ _ _ _ h=>h,fun _ _ _ _ h=>h,fun _ _ _ _ h=>h,fun _ _ _ _ h=>h,fun _ _ _ _ h=>h,fun _ _ _ _ h=>h,fun _ _ _ _ h=>h,fun _ _ _ _ h=>h,fun _ _ _ _ h=>h,fun _ v w' F h=>by obtain ⟨A181,c182,hv,H183⟩:=h; exact ⟨A181,c182,hv,(stb_born H183 hg F)⟩,(fun h=>absurd h (by decide)),fun _ _ _ _ h=>h,trivial⟩) (fun g165=>⟨fun w' w'' F h=>by have hG165:=h; exact (fun b e=>(hG165 b e).ex F),fun w' w'' F h=>by obtain ⟨A181,c182,H183,hG165⟩:=h; exact ⟨A181,c182,(H183.ex F),(fun b e=>(hG165 b e).ex F)⟩,trivial⟩) (fun b e=>absurd e gNil_ne) (fun k hk g w w' hw hg F hX hI=>match k,hk,hI with | 0,_,hI=>by have hG165:=hI; exact hX | k + 1,hk,_=>absurd hk (by omega)) ?_ ?_ ?_ ?_
   ·refine ⟨?_,?_,?_,?_,?_,?_,?_,?_,?_,?_,?_,?_,?_,?_,?_,?_,trivial⟩
    ·intro _ _ g165 ρ w165o hg165 F165o hX hS hρ
     have F165o:=hX 15 rfl rfl
     have q4:ρ 4=.pointer (some ⟨b10,0,none⟩):=hρ 4 (by kernel_rfl)
     exact o_q (r_lda agg_buffer_Buffer q4 (vs:=(cBuf d0 A1 c2)) rfl ((S10.fr (G146.trans (Fr.ext F165o)) (fun _ h=>h)).now.part (n:=3) rfl)) ⟨Fr.refl _ _,rfl⟩
    ·intro _ _ g165 ρ w165o hg165 F165o hX hS hρ
     have F165o:=hX 15 rfl rfl
     have q5:ρ 5=.pointer (some ⟨b12,0,none⟩):=hρ 5 (by kernel_rfl)
     exact o_q (r_lda agg_api_Arena q5 (vs:=(cArena d1 A4 c5 A7 c8)) rfl ((S12.fr (G147.trans (Fr.ext F165o)) (fun _ h=>h)).now.part (n:=3) rfl)) ⟨Fr.refl _ _,rfl⟩
    ·intro _ _ g165 ρ w165o hg165 F165o hX hS hρ
     have F165o:=hX 15 rfl rfl
     have q11:ρ 11=.int .i64 (IntKind.i64.wrap ((Int.tmod (IntKind.i64.wrap d2) (7:Int)) + (1:Int))):=hρ 11 (by kernel_rfl)
     exact o_q (r_mov q11) ⟨Fr.refl _ _,rfl⟩
    ·intro _ _ g165 ρ w165o hg165 F165o hX hS hρ
     have F165o:=hX 15 rfl rfl
     have q5:ρ 5=.pointer (some ⟨b12,0,none⟩):=hρ 5 (by kernel_rfl)
     exact o_q (r_fa fld_api_Arena_1 rfl q5) ⟨Fr.refl _ _,rfl⟩
    ·intro _ _ g165 ρ w165o hg165 F165o hX hS hρ
     have F165o:=hX 15 rfl rfl
     have q86:ρ 86=.pointer (some ⟨b12,1,none⟩):=hS 3 (by decide) 86 rfl
     exact o_q (r_ld one_s_api_Entry q86 ((S12.fr (G147.trans (Fr.ext F165o)) (fun _ h=>h)).now.cell rfl)) ⟨Fr.refl _ _,rfl⟩
    ·intro _ _ g165 ρ w165o hg165 F165o hX hS hρ
     have F165o:=hX 15 rfl rfl
     have q3:ρ 3=.int .u8 d3:=hρ 3 (by kernel_rfl)
     exact o_q (r_mov q3) ⟨Fr.refl _ _,rfl⟩
    ·intro _ _ g165 ρ w165o hg165 F165o hX hS hρ
     have F165o:=hX 15 rfl rfl
     have q88:ρ 88=.int .u8 d3:=hS 5 (by decide) 88 rfl
     exact o_q (r_conv un_uint8 un_int q88) ⟨Fr.refl _ _,rfl⟩
    ·intro _ _ g165 ρ w165o hg165 F165o hX hS hρ
     have F165o:=hX 15 rfl rfl
     have q5:ρ 5=.pointer (some ⟨b12,0,none⟩):=hρ 5 (by kernel_rfl)
     exact o_q (r_fa fld_api_Arena_1 rfl q5) ⟨Fr.refl _ _,rfl⟩
    ·intro _ _ g165 ρ w165o hg165 F165o hX hS hρ
     have F165o:=hX 15 rfl rfl
     have q90:ρ 90=.pointer (some ⟨b12,1,none⟩):=hS 7 (by decide) 90 rfl
     exact o_q (r_ld one_s_api_Entry q90 ((S12.fr (G147.trans (Fr.ext F165o)) (fun _ h=>h)).now.cell rfl)) ⟨Fr.refl _ _,rfl⟩
    ·intro _ _ g165 ρ w165o hg165 F165o hX hS hρ
     have F165o:=hX 15 rfl rfl
     have q91:ρ 91=.slice A4 d1.slots.length c5:=hS 8 (by decide) 91 rfl
     exact o_q (r_len_slc un_s_api_Entry q91) ⟨Fr.refl _ _,rfl⟩
    ·intro _ _ g165 ρ w165o hg165 F165o hX hS hρ
     have F165o:=hX 15 rfl rfl
     have q89:ρ 89=.int .i64 (IntKind.i64.wrap d3):=hS 6 (by decide) 89 rfl
     have q92:ρ 92=.int .i64 (d1.slots.length:Int):=hS 9 (by decide) 92 rfl
     exact o_q (r_rem q89 q92 ha166) ⟨Fr.refl _ _,rfl⟩
    ·intro _ _ g165 ρ w165o hg165 F165o hX hS hρ
     have F165o:=hX 15 rfl rfl
     have q87:ρ 87=.slice A4 d1.slots.length c5:=hS 4 (by decide) 87 rfl
     have q93:ρ 93=.int .i64 (Int.tmod (IntKind.i64.wrap d3) (d1.slots.length:Int)):=hS 10 (by decide) 93 rfl
     exact o_q (r_ia slc_s_api_Entry q87 q93 ((H6.fr (G145.trans (Fr.ext F165o)) (fun _ h=>h)).now.2 _ (lt_toNat ha167.1 ha167.2)).1 ha167.1 ha167.2) ⟨Fr.refl _ _,rfl⟩
    ·intro _ _ g165 ρ w165o hg165 F165o hX hS hρ
     have F165o:=hX 15 rfl rfl
     have G246:Fr (b125::(b86::(b45::L))) w143 w165o:=Fr.ext F165o
     have q94:ρ 94=.pointer (some (elemA A4 kEnt.n (Int.tmod (IntKind.i64.wrap d3) (d1.slots.length:Int)).toNat)):=hS 11 (by decide) 94 rfl
     exact o_q (r_lda' agg_api_Entry q94 (elemA_spot _ _ _) (vs:=(cEnt (nth d1.slots (Int.tmod (IntKind.i64.wrap d3) (d1.slots.length:Int))) A172 c173 A175 c176)) rfl ((H171.fr G246 (fun _ h=>h)).now.1)) ⟨Fr.refl _ _,rfl⟩
    ·intro _ _ g165 ρ w165o hg165 F165o hX hS hρ
     have F165o:=hX 15 rfl rfl
     have E250:=E144.trans F165o
     have G257:Fr (b125::(b86::(b45::L))) w143 w165o:=Fr.ext F165o
     have q83:ρ 83=.agg (cBuf d0 A1 c2).toArray:=hS 0 (by decide) 83 rfl
     have q84:ρ 84=.agg (cArena d1 A4 c5 A7 c8).toArray:=hS 1 (by decide) 84 rfl
     have q85:ρ 85=.int .i64 (IntKind.i64.wrap ((Int.tmod (IntKind.i64.wrap d2) (7:Int)) + (1:Int))):=hS 2 (by decide) 85 rfl
     have q95:ρ 95=.agg (cEnt (nth d1.slots (Int.tmod (IntKind.i64.wrap d3) (d1.slots.length:Int))) A172 c173 A175 c176).toArray:=hS 12 (by decide) 95 rfl
     refine o_call cf_buffer_Note (by simp only [List.map,ev,q83,q84,q85,q95] <;> rfl) (buffer_Note_c d0 (kBuf_mk (d:=d0) (H3.up (G145.trans (Fr.ext F165o)) (fun _ h=>h) (upo (fun m hm=>.inr (Nat.le_trans (G145.size) (hg165 m hm).1)) (upc (.inr m128) (upc (.inr m88) (upc (.inr m46) (fun _ h=>.inl h))))))) d1 (kArena_mk (d:=d1) (H6.up (G145.trans (Fr.ext F165o)) (fun _ h=>h) (upo (fun m hm=>.inr (Nat.le_trans (G145.size) (hg165 m hm).1)) (upc (.inr m128) (upc (.inr m88) (upc (.inr m46) (fun _ h=>.inl h)))))) (H9.up (G145.trans (Fr.ext F165o)) (fun _ h=>h) (upo (fun m hm=>.inr (Nat.le_trans (G145.size) (hg165 m hm).1)) (upc (.inr m128) (upc (.inr m88) (upc (.inr m46) (fun _ h=>.inl h))))))) (IntKind.i64.wrap ((Int.tmod (IntKind.i64.wrap d2) (7:Int)) + (1:Int))) (nth d1.slots (Int.tmod (IntKind.i64.wrap d3) (d1.slots.length:Int))) (kEnt_mk (d:=(nth d1.slots (Int.tmod (IntKind.i64.wrap d3) (d1.slots.length:Int)))) (H174.up G257 (fun _ h=>h) (upo (fun m hm=>.inr (Nat.le_trans (Nat.le_refl _) (hg165 m hm).1)) (upc (.inl (List.Mem.head _)) (upc (.inl (List.Mem.tail _ (List.Mem.head _))) (upc (.inl (List.Mem.tail _ (List.Mem.tail _ (List.Mem.head _)))) (fun m hm=>Or.inl (List.Mem.tail _ (List.Mem.tail _ (List.Mem.tail _ hm))))))))) (H177.up G257 (fun _ h=>h) (upo (fun m hm=>.inr (Nat.le_trans (Nat.le_refl _) (hg165 m hm).1)) (upc (.inl (List.Mem.head _)) (upc (.inl (List.Mem.tail _ (List.Mem.head _))) (upc (.inl (List.Mem.tail _ (List.Mem.tail _ (List.Mem.head _)))) (fun m hm=>Or.inl (List.Mem.tail _ (List.Mem.tail _ (List.Mem.tail _ hm)))))))))) (lt_ghost ((((hL.fr E250).cons (B151.ex F165o).lt).cons (B152.ex F165o).lt).cons (B143'.ex F165o).lt) hg165) (eq_ev hx178 (bufNote_ev d0 d1 (IntKind.i64.wrap ((Int.tmod (IntKind.i64.wrap d2) (7:Int)) + (1:Int))) (nth d1.slots (Int.tmod (IntKind.i64.wrap d3) (d1.slots.length:Int))) ha179 ha180))) rfl rfl ?_
     rintro _ w' ⟨F,cs261,rfl,H262⟩
     obtain ⟨A181,c182,rfl,H183⟩:=kBuf_open H262
     exact eo_nil ⟨rfl,rfl,_,rfl,F,⟨A181,c182,rfl,H183⟩⟩
    ·intro _ hT; exact absurd hT (by decide)
    ·intro hT; exact absurd hT (by decide)
   ·intro o ho ρ w165o F165o hX hS hρ; cases Option.some.inj ho; refine o_alloc zero_buffer_Buffer rfl rfl rfl ?_; intro b w' e F B; subst e
    exact eo_nil ⟨rfl,rfl,_,rfl,F,gOf _,(fun m hm=>by rw [own_gOf,List.mem_singleton] at hm; subst hm; exact ⟨Nat.le_refl _,B.lt⟩),(fun b e=>by obtain rfl:=gOf_inj e; exact B),_,rfl,rfl,F165o.size⟩
   ·refine ⟨⟨_,rfl,?_⟩,trivial⟩
    ·intro g165 ρ w165o hg165 F165o hX hI hS hρ
     have hG165:=hI
     obtain ⟨b165_14,q17,heb165_14,lob165_14⟩:=hS 14 (by decide) 17 rfl
     obtain ⟨A181,c182,q96,H183⟩:=hS 13 (by decide) 96 rfl
     subst heb165_14
     have hB165_b165_14:=hG165 _ rfl
     refine o_store (show ev ρ _=_ from q17) hB165_b165_14 (vs:=[.int .i64 x178.epoch,.int .i64 x178.first,.slice A181 x178.names.length c182]) (congrArg Value.cells q96) sz_buffer_Buffer rfl rfl rfl ?_
     intro w' F B2
     exact eo_nil ⟨rfl,rfl,undef,rfl,F,⟨A181,c182,(H183.fr F (fun m hm=>List.mem_append_left _ hm)),(fun b e=>by obtain rfl:=gOf_inj e; exact B2)⟩,trivial⟩
   ·intro g165 ρ w165 hg165 F165 hI hS hρ
    obtain ⟨A181,c182,H183,hG165⟩:=hI
    obtain ⟨b165_14,q17,heb165_14,lob165_14⟩:=hS 14 17 rfl
    subst heb165_14
    have hB165_b165_14:=hG165 _ rfl
    have H183:Stb (b165_14::(b125::(b86::(b45::L)))) w165 (fun w=>SlC kNm w A181 c182 x178.names):=H183
    obtain ⟨ρ',rfl⟩:∃ ρ',ρ=envs (ovr [17,83,84,85,86,87,88,89,90,91,92,93,94,95,96] ρ' _) [(17,.pointer (some ⟨b165_14,0,none⟩))]:=⟨ρ,ovr_self hρ ⟨q17,trivial⟩⟩
    have n165_14:w.heap.size≤b165_14:=Nat.le_trans E144.size lob165_14
    have q274:b45<b165_14:=Nat.lt_of_lt_of_le B151.lt lob165_14
    have q275:b86<b165_14:=Nat.lt_of_lt_of_le B152.lt lob165_14
    have q276:b125<b165_14:=Nat.lt_of_lt_of_le B143'.lt lob165_14
    have m277:w.heap.size≤b165_14:=Nat.le_trans G145.size lob165_14
    have m281:w71.heap.size≤b165_14:=Nat.le_trans G149.size lob165_14
    have m282:w108.heap.size≤b165_14:=Nat.le_trans G150.size lob165_14
    have E284:=E144.trans F165
    have Z165:=Fr.refl (b165_14::(b125::(b86::(b45::L)))) w165
    refine sq_n ?_
    refine ec_seq ?_
    refine ec_region ?_
    refine o_w (v:=.agg (cBuf x178 A181 c182).toArray) (r_lda agg_buffer_Buffer rfl (vs:=(cBuf x178 A181 c182)) rfl (hB165_b165_14.part (n:=3) rfl)) ?_
    refine o_w (v:=.agg (cArena d1 A4 c5 A7 c8).toArray) (r_lda agg_api_Arena rfl (vs:=(cArena d1 A4 c5 A7 c8)) rfl ((S12.fr (G147.trans (Fr.ext F165)) (fun _ h=>h)).now.part (n:=3) rfl)) ?_
    refine o_w (v:=.int .i64 (IntKind.i64.wrap ((Int.tmod (IntKind.i64.wrap d2) (7:Int)) + (1:Int)))) (r_mov rfl) ?_
    obtain ⟨ha296,h⟩:=h
    obtain ⟨ha297,h⟩:=h
    obtain ⟨x295,hx295,h⟩:=h
    refine o_call cf_push_Send rfl (push_Send_c x178 (kBuf_mk (d:=x178) (H183.fr Z165 (fun _ h=>h))) d1 (kArena_mk (d:=d1) (H6.up (G145.trans (Fr.ext F165)) (fun _ h=>h) (upc (.inr m277) (upc (.inr m128) (upc (.inr m88) (upc (.inr m46) (fun _ h=>.inl h)))))) (H9.up (G145.trans (Fr.ext F165)) (fun _ h=>h) (upc (.inr m277) (upc (.inr m128) (upc (.inr m88) (upc (.inr m46) (fun _ h=>.inl h))))))) (IntKind.i64.wrap ((Int.tmod (IntKind.i64.wrap d2) (7:Int)) + (1:Int))) (1:Int) (((((hL.fr E284).cons (B151.ex F165).lt).cons (B152.ex F165).lt).cons (B143'.ex F165).lt).cons hB165_b165_14.lt) (eq_ev hx295 (puSend_ev x178 d1 (IntKind.i64.wrap ((Int.tmod (IntKind.i64.wrap d2) (7:Int)) + (1:Int))) (1:Int) ha296 ha297))) rfl rfl ?_
    rintro _ w295 ⟨F295,cs298,rfl,H299⟩
    have E300:=E284.trans F295
    obtain ⟨A314,c315,rfl,H316,hl313⟩:=kFrm_open H299
    refine o_w (v:=.tuple #[.agg (cFrm x295.1 A314 c315).toArray,.bool x295.2]) (r_mov rfl) ?_
    refine o_w (v:=.agg (cFrm x295.1 A314 c315).toArray) (r_ext rfl rfl) ?_
    refine o_w (v:=.bool x295.2) (r_ext rfl rfl) ?_
    refine o_alloc zero_frame_Frame rfl rfl rfl ?_
    intro b317 w317 e317 F317 B317
    have n317:w.heap.size≤b317:=by rw [e317]; exact E300.size
    have q318:b45<b317:=by rw [e317]; exact ((B151.ex F165).ex F295).lt
    have q319:b86<b317:=by rw [e317]; exact ((B152.ex F165).ex F295).lt
    have q320:b125<b317:=by rw [e317]; exact ((B143'.ex F165).ex F295).lt
    have q321:b165_14<b317:=by rw [e317]; exact (hB165_b165_14.ex F295).lt
    have m326:w71.heap.size≤b317:=by rw [e317]; exact ((G149.trans (Fr.ext F165)).trans (Fr.ext F295)).size
    have m327:w108.heap.size≤b317:=by rw [e317]; exact ((G150.trans (Fr.ext F165)).trans (Fr.ext F295)).size
    have m330:w295.heap.size≤b317:=Nat.le_of_eq e317.symm
    have E331:=E300.trans F317
    have G336:=((G149.trans (Fr.ext F165)).trans (Fr.ext F295)).trans (Fr.ext F317)
    have G337:=((G150.trans (Fr.ext F165)).trans (Fr.ext F295)).trans (Fr.ext F317)
    have G340:Fr (b165_14::(b125::(b86::(b45::L)))) w295 w317:=Fr.ext F317
    refine o_store rfl B317 (vs:=(cFrm x295.1 A314 c315)) rfl sz_frame_Frame rfl rfl rfl ?_
    intro w345 F345 B345
    have E346:=Ext.st E331 F345 (by simp; omega)
    have G351:Fr (b45::L) w71 w345:=G336.stp F345 (upc (.inr m326) (fun m hm=>by cases hm))
    have G352:Fr (b86::(b45::L)) w108 w345:=G337.stp F345 (upc (.inr m327) (fun m hm=>by cases hm))
    have G355:Fr (b165_14::(b125::(b86::(b45::L)))) w295 w345:=G340.stp F345 (upc (.inr m330) (fun m hm=>by cases hm))
    have B356:=(((B151.ex F165).ex F295).ex F317).fr F345 (by simp; omega)
    have B357:=(((B152.ex F165).ex F295).ex F317).fr F345 (by simp; omega)
    have B358:=(((B143'.ex F165).ex F295).ex F317).fr F345 (by simp; omega)
    have B359:=((hB165_b165_14.ex F295).ex F317).fr F345 (by simp; omega)
    have B345':Blk w345 b317 _ (cFrm x295.1 A314 c315):=B345
    refine o_w (v:=.bool x295.2) (r_asg rfl) ?_
    refine eo_nil_sq ?_
    refine ec_seq ?_
    refine ec_region ?_
    iterate 2 refine o_w (v:=.bool (worksV)) (r_mov rfl) ?_
    refine o_v (v:=.bool x71.2) (r_mov rfl) (want_t (t:=105) rfl rfl (of_not hc21)) rfl rfl ?_
    refine o_w (v:=.bool x71.2) (r_pickT rfl (of_not hc21) rfl) ?_
    refine o_w (v:=.bool x71.2) (r_mov rfl) ?_
    refine o_vg (v:=.bool x108.2) (want_ct (t:=108) rfl rfl) (fun hk=>(r_mov rfl)) rfl rfl ?_
    refine o_w (v:=.bool (x71.2&&x108.2)) (r_pickAnd rfl (fun ht=>(gdT ht)) rfl) ?_
    refine o_w (v:=.bool (x71.2&&x108.2)) (r_mov rfl) ?_
    refine o_vg (v:=.bool x295.2) (want_ct (t:=111) rfl rfl) (fun hk=>(r_mov rfl)) rfl rfl ?_
    refine o_w (v:=.bool ((x71.2&&x108.2)&&x295.2)) (r_pickAnd rfl (fun ht=>(gdT ht)) rfl) ?_
    refine o_w (v:=.bool ((x71.2&&x108.2)&&x295.2)) (r_mov rfl) ?_
    refine o_vg (v:=.agg (cFrm x71.1 A83 c84).toArray) (want_ct (t:=114) rfl rfl) (fun hk=>(r_lda agg_frame_Frame rfl (vs:=(cFrm x71.1 A83 c84)) rfl (B357.part (n:=8) rfl))) rfl rfl ?_
    refine o_vg (v:=.agg (cFrm x108.1 A122 c123).toArray) (want_ct (t:=114) rfl rfl) (fun hk=>(r_lda agg_frame_Frame rfl (vs:=(cFrm x108.1 A122 c123)) rfl (B358.part (n:=8) rfl))) rfl rfl ?_
    obtain ⟨ha363,h⟩:=h
    refine o_callg (V:=.bool (sameF x71.1 x108.1)) cf_frame_Same (want_ct (t:=114) rfl rfl) (fun hk=>(mapv2 (gdT hk) (gdT hk))) (fun hk=>(frame_Same_c x71.1 (kFrm_mk (d:=x71.1) (H85.up G351 (fun _ h=>h) (upc (.inr m326) (upc (.inr m281) (upc (.inr m132) (upc (.inr m92) (upc (.inl (List.Mem.head _)) (fun m hm=>Or.inl (List.Mem.tail _ hm)))))))) hl82) x108.1 (kFrm_mk (d:=x108.1) (H124.up G352 (fun _ h=>h) (upc (.inr m327) (upc (.inr m282) (upc (.inr m133) (upc (.inl (List.Mem.head _)) (upc (.inl (List.Mem.tail _ (List.Mem.head _))) (fun m hm=>Or.inl (List.Mem.tail _ (List.Mem.tail _ hm))))))))) hl121) ((((((hL.fr E346).cons B356.lt).cons B357.lt).cons B358.lt).cons B359.lt).cons B345'.lt) (frSame_ev x71.1 x108.1 (ha363 hk)))) rfl ?_
    intro w362 F362
    have E364:=E346.trans F362
    refine o_w (v:=.bool (((x71.2&&x108.2)&&x295.2)&&(sameF x71.1 x108.1))) (r_pickAnd rfl (fun ht=>(gdT ht)) rfl) ?_
    refine o_w (v:=.bool (((x71.2&&x108.2)&&x295.2)&&(sameF x71.1 x108.1))) (r_mov rfl) ?_
    refine o_vg (v:=.agg (cFrm x71.1 A83 c84).toArray) (want_ct (t:=119) rfl rfl) (fun hk=>(r_lda agg_frame_Frame rfl (vs:=(cFrm x71.1 A83 c84)) rfl ((B357.ex F362).part (n:=8) rfl))) rfl rfl ?_
    refine o_vg (v:=.agg (cFrm x295.1 A314 c315).toArray) (want_ct (t:=119) rfl rfl) (fun hk=>(r_lda agg_frame_Frame rfl (vs:=(cFrm x295.1 A314 c315)) rfl ((B345'.ex F362).part (n:=8) rfl))) rfl rfl ?_
    obtain ⟨ha380,h⟩:=h
    refine o_callg (V:=.bool (sameF x71.1 x295.1)) cf_frame_Same (want_ct (t:=119) rfl rfl) (fun hk=>(mapv2 (gdT hk) (gdT hk))) (fun hk=>(frame_Same_c x71.1 (kFrm_mk (d:=x71.1) (H85.up (G351.trans (Fr.ext F362)) (fun _ h=>h) (upc (.inr m326) (upc (.inr m281) (upc (.inr m132) (upc (.inr m92) (upc (.inl (List.Mem.head _)) (fun m hm=>Or.inl (List.Mem.tail _ hm)))))))) hl82) x295.1 (kFrm_mk (d:=x295.1) (H316.up (G355.trans (Fr.ext F362)) (fun _ h=>h) (upc (.inr m330) (upc (.inl (List.Mem.head _)) (upc (.inl (List.Mem.tail _ (List.Mem.head _))) (upc (.inl (List.Mem.tail _ (List.Mem.tail _ (List.Mem.head _)))) (upc (.inl (List.Mem.tail _ (List.Mem.tail _ (List.Mem.tail _ (List.Mem.head _))))) (fun m hm=>Or.inl (List.Mem.tail _ (List.Mem.tail _ (List.Mem.tail _ (List.Mem.tail _ hm))))))))))) hl313) ((((((hL.fr E364).cons (B356.ex F362).lt).cons (B357.ex F362).lt).cons (B358.ex F362).lt).cons (B359.ex F362).lt).cons (B345'.ex F362).lt) (frSame_ev x71.1 x295.1 (ha380 hk)))) rfl ?_
    intro w379 F379
    have E381:=E364.trans F379
    refine o_w (v:=.bool ((((x71.2&&x108.2)&&x295.2)&&(sameF x71.1 x108.1))&&(sameF x71.1 x295.1))) (r_pickAnd rfl (fun ht=>(gdT ht)) rfl) ?_
    refine o_w (v:=.bool ((((x71.2&&x108.2)&&x295.2)&&(sameF x71.1 x108.1))&&(sameF x71.1 x295.1))) (r_asg rfl) ?_
    refine eo_nil_sq ?_
    refine ec_ret ?_
    subst h
    exact (end1 rfl ⟨_,rfl,E381,rfl⟩)
end Go.Proofs.Ythfkbabgkacfnaa
