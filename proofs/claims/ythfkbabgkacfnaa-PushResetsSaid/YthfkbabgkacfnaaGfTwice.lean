/- The law PushTwice: what it comes to. -/
import Derived.Test.YthfkbabgkacfnaaPx
namespace Go.Proofs.Ythfkbabgkacfnaa
open Go Go.RowKit
set_option linter.unusedVariables false
set_option linter.unusedSimpArgs false
def law17_PushTwice_raw (d0:Buf) (d1:Arena) (d2:Int) (d3:Int) (d4:Int) (y:Bool):Prop :=
 ((!(worksV))=true→(y=false))∧((!(worksV))=false→(((!(!((fewB d0)&&(fewA d1))))=true→sma d1)∧(((((!((fewB d0)&&(fewA d1)))||((checkA d1) != (0:Int)))||((d1.slots.length:Int)==(0:Int)))=true→(y=(worksV)))∧((((!((fewB d0)&&(fewA d1)))||((checkA d1) != (0:Int)))||((d1.slots.length:Int)==(0:Int)))=false→((smB d0)∧((sma d1)∧(∃ x41,x41=(mendB d0 d1 (IntKind.i64.wrap ((Int.tmod (IntKind.i64.wrap d2) (8:Int)) + (1:Int))))∧((smB d0)∧((sma d1)∧(∃ x69,x69=(sendP d0 d1 (IntKind.i64.wrap ((Int.tmod (IntKind.i64.wrap d2) (8:Int)) + (1:Int))) (IntKind.i64.wrap ((Int.tmod (IntKind.i64.wrap d3) (4:Int)) + (1:Int))))∧((sml x69.1.entries)∧((x69.1.entries.length≤1000000)∧(∃ x106,x106=(heardP x69.1)∧(((((!x69.2)||(!x106.2))||(decide ((2147483000:Int)<x41.first)))=true→(y=(worksV)))∧((((!x69.2)||(!x106.2))||(decide ((2147483000:Int)<x41.first)))=false→((smB d0)∧((sma d1)∧((sml x106.1.entries)∧((x106.1.entries.length≤1000000)∧(∃ x152,x152=(doneP d0 d1 (IntKind.i64.wrap ((Int.tmod (IntKind.i64.wrap d2) (8:Int)) + (1:Int))) x106.1)∧((smB x152)∧((sma d1)∧((sml x106.1.entries)∧((x106.1.entries.length≤1000000)∧(∃ x206,x206=(doneP x152 d1 (IntKind.i64.wrap ((Int.tmod (IntKind.i64.wrap d2) (8:Int)) + (1:Int))) x106.1)∧(((d1.slots.length:Int)==(0:Int))=false∧((0≤(Int.tmod (IntKind.i64.wrap d4) (d1.slots.length:Int))∧(Int.tmod (IntKind.i64.wrap d4) (d1.slots.length:Int))<(d1.slots.length:Int))∧(smN x152∧(sma d1∧(∃ x398,x398=(noteB x152 d1 (IntKind.i64.wrap ((Int.tmod (IntKind.i64.wrap d2) (8:Int)) + (1:Int))) (nth d1.slots (Int.tmod (IntKind.i64.wrap d4) (d1.slots.length:Int))))∧(smB x398∧(sma d1∧(sml x106.1.entries∧(x106.1.entries.length≤1000000∧(∃ x404,x404=(doneP x398 d1 (IntKind.i64.wrap ((Int.tmod (IntKind.i64.wrap d2) (8:Int)) + (1:Int))) x106.1)∧((smN x152)∧((sma d1)∧(∃ x575,x575=(noteB x152 d1 (IntKind.i64.wrap ((Int.tmod (IntKind.i64.wrap d2) (8:Int)) + (1:Int))) (nth d1.slots (Int.tmod (IntKind.i64.wrap d4) (d1.slots.length:Int))))∧((smB x152)∧(((sameB x152 x206)=true→smB x404)∧(y=(((sameB x152 x206)&&(sameB x404 x575))&&(x152.first==(IntKind.i64.wrap (x41.first + (x69.1.entries.length:Int))))))))))))))))))))))))))))))))))))))))))))))
set_option maxRecDepth 20000 in
set_option maxHeartbeats 4000000 in
theorem law17_PushTwice_c {L:List Nat} {w:World} {csP0:List Value} (d0:Buf) (HP0:Stb L w (fun w=>kBuf.r w csP0 d0)) {csP1:List Value} (d1:Arena) (HP1:Stb L w (fun w=>kArena.r w csP1 d1)) (d2:Int) (d3:Int) (d4:Int) (hL:Lt L w) {y:Bool} (h:law17_PushTwice_raw d0 d1 d2 d3 d4 y) :
  Calls Try.prog 5 [.agg csP0.toArray,.agg csP1.toArray,.int .u8 d2,.int .u8 d3,.int .u8 d4].toArray w (Ret fun v w'=>Ext w w'∧v=.bool y):=by
 obtain ⟨A1,c2,rfl,H3⟩:=kBuf_open HP0
 obtain ⟨A4,c5,A7,c8,rfl,H6,H9⟩:=kArena_open HP1
 unfold law17_PushTwice_raw at h
 refine calls_ec Try.func5 rfl rfl rfl ?_
 refine ec_seq ?_
 refine ec_region ?_
 refine o_box (cs:=(cBuf d0 A1 c2)) rfl rfl rfl ?_
 intro b10 w10 e10 F10 B10
 have S10:=B10.stb (nin hL e10)
 have G11:Fr L w w10:=Fr.ext F10
 refine o_box (cs:=(cArena d1 A4 c5 A7 c8)) rfl rfl rfl ?_
 intro b12 w12 e12 F12 B12
 have S12:=B12.stb (nin (hL.fr F10) e12)
 have E13:=F10.trans F12
 have G15:Fr L w10 w12:=Fr.ext F12
 refine o_w (v:=.bool false) (r_asg rfl) ?_
 refine eo_nil_sq ?_
 refine ec_seq ?_
 refine ec_region ?_
 refine o_call cf_law17_works rfl (law17_works_c (hL.fr E13) (works17_ev)) rfl rfl ?_
 rintro _ w16 ⟨F16,rfl⟩
 have E17:=E13.trans F16
 have G20:Fr L w12 w16:=Fr.ext F16
 refine o_w (v:=.bool (worksV)) (r_asg rfl) ?_
 refine eo_nil_sq ?_
 iterate 2 refine ec_seq ?_
 refine ec_region ?_
 refine o_w (v:=.bool (worksV)) (r_mov rfl) ?_
 refine o_w (v:=.bool (!(worksV))) (r_not rfl) ?_
 refine eo_nil_sq ?_
 refine ec_cond rfl (fun hc21=>?_) (fun hc21=>?_)
 ·replace h:=h.1 hc21
  refine ec_seq ?_
  refine ec_region ?_
  refine o_w (v:=.bool false) (r_asg rfl) ?_
  refine eo_nil_sq ?_
  refine ec_ret ?_
  refine sq_ret ?_
  subst h
  exact (end1 rfl ⟨_,rfl,E17,rfl⟩)
 ·replace h:=h.2 hc21
  refine ec_skip ?_
  refine sq_n ?_
  refine ec_seq ?_
  refine ec_region ?_
  refine o_w (v:=.agg (cBuf d0 A1 c2).toArray) (r_lda agg_buffer_Buffer rfl (vs:=(cBuf d0 A1 c2)) rfl ((S10.fr (G15.trans (Fr.ext F16)) (fun _ h=>h)).now.part (n:=3) rfl)) ?_
  refine o_call cf_law16_Few rfl (law16_Few_c d0 (kBuf_mk (d:=d0) (H3.fr ((G11.trans (Fr.ext F12)).trans (Fr.ext F16)) (fun _ h=>h))) (hL.fr E17) (fewB_ev d0)) rfl rfl ?_
  rintro _ w23 ⟨F23,rfl⟩
  have E24:=E17.trans F23
  refine o_w (v:=.bool (fewB d0)) (r_mov rfl) ?_
  refine o_vg (v:=.agg (cArena d1 A4 c5 A7 c8).toArray) (want_ct (t:=30) rfl rfl) (fun hk=>(r_lda agg_api_Arena rfl (vs:=(cArena d1 A4 c5 A7 c8)) rfl ((S12.fr (G20.trans (Fr.ext F23)) (fun _ h=>h)).now.part (n:=3) rfl))) rfl rfl ?_
  refine o_callg (V:=.bool (fewA d1)) cf_law08_Few (want_ct (t:=30) rfl rfl) (fun hk=>(mapv1 (gdT hk))) (fun hk=>(law08_Few_c d1 (kArena_mk (d:=d1) (H6.fr (((G11.trans (Fr.ext F12)).trans (Fr.ext F16)).trans (Fr.ext F23)) (fun _ h=>h)) (H9.fr (((G11.trans (Fr.ext F12)).trans (Fr.ext F16)).trans (Fr.ext F23)) (fun _ h=>h))) (hL.fr E24) (fewA_ev d1))) rfl ?_
  intro w28 F28
  have E29:=E24.trans F28
  have G30:=(((G11.trans (Fr.ext F12)).trans (Fr.ext F16)).trans (Fr.ext F23)).trans (Fr.ext F28)
  refine o_w (v:=.bool ((fewB d0)&&(fewA d1))) (r_pickAnd rfl (fun ht=>(gdT ht)) rfl) ?_
  refine o_w (v:=.bool ((fewB d0)&&(fewA d1))) (r_asg rfl) ?_
  refine eo_nil_sq ?_
  refine ec_seq ?_
  refine ec_region ?_
  refine o_w (v:=.int .u8 d2) (r_mov rfl) ?_
  refine o_w (v:=.int .i64 (IntKind.i64.wrap d2)) (r_conv un_uint8 un_int rfl) ?_
  refine o_w (v:=.int .i64 (Int.tmod (IntKind.i64.wrap d2) (8:Int))) (r_rem rfl rfl rfl) ?_
  refine o_w (v:=.int .i64 (IntKind.i64.wrap ((Int.tmod (IntKind.i64.wrap d2) (8:Int)) + (1:Int)))) (r_int rfl rfl rfl) ?_
  refine o_w (v:=.int .i64 (IntKind.i64.wrap ((Int.tmod (IntKind.i64.wrap d2) (8:Int)) + (1:Int)))) (r_asg rfl) ?_
  refine eo_nil_sq ?_
  refine ec_seq ?_
  refine ec_region ?_
  refine o_w (v:=.int .u8 d3) (r_mov rfl) ?_
  refine o_w (v:=.int .i64 (IntKind.i64.wrap d3)) (r_conv un_uint8 un_int rfl) ?_
  refine o_w (v:=.int .i64 (Int.tmod (IntKind.i64.wrap d3) (4:Int))) (r_rem rfl rfl rfl) ?_
  refine o_w (v:=.int .i64 (IntKind.i64.wrap ((Int.tmod (IntKind.i64.wrap d3) (4:Int)) + (1:Int)))) (r_int rfl rfl rfl) ?_
  refine o_w (v:=.int .i64 (IntKind.i64.wrap ((Int.tmod (IntKind.i64.wrap d3) (4:Int)) + (1:Int)))) (r_asg rfl) ?_
  refine eo_nil_sq ?_
  iterate 2 refine ec_seq ?_
  refine ec_region ?_
  refine o_w (v:=.bool ((fewB d0)&&(fewA d1))) (r_mov rfl) ?_
  refine o_w (v:=.bool (!((fewB d0)&&(fewA d1)))) (r_not rfl) ?_
  refine o_w (v:=.bool (!((fewB d0)&&(fewA d1)))) (r_mov rfl) ?_
  refine o_vg (v:=.agg (cArena d1 A4 c5 A7 c8).toArray) (want_cf (t:=44) rfl rfl) (fun hk=>(r_lda agg_api_Arena rfl (vs:=(cArena d1 A4 c5 A7 c8)) rfl ((S12.fr ((G20.trans (Fr.ext F23)).trans (Fr.ext F28)) (fun _ h=>h)).now.part (n:=3) rfl))) rfl rfl ?_
  obtain ⟨ha35,h⟩:=h
  refine o_callg (V:=.int .i64 (checkA d1)) cf_arena_Check (want_cf (t:=44) rfl rfl) (fun hk=>(mapv1 (gdT hk))) (fun hk=>(arena_Check_c d1 (kArena_mk (d:=d1) (H6.fr G30 (fun _ h=>h)) (H9.fr G30 (fun _ h=>h))) (hL.fr E29) (arCheck_ev d1 (ha35 hk)))) rfl ?_
  intro w34 F34
  have E36:=E29.trans F34
  have G38:=(((G15.trans (Fr.ext F16)).trans (Fr.ext F23)).trans (Fr.ext F28)).trans (Fr.ext F34)
  refine o_vg (v:=.bool ((checkA d1) != (0:Int))) (want_cf (t:=44) rfl rfl) (fun hk=>(r_int (gdT hk) rfl rfl)) rfl rfl ?_
  refine o_w (v:=.bool ((!((fewB d0)&&(fewA d1)))||((checkA d1) != (0:Int)))) (r_pickOr rfl rfl (fun hf=>(gdT (notT hf)))) ?_
  refine o_w (v:=.bool ((!((fewB d0)&&(fewA d1)))||((checkA d1) != (0:Int)))) (r_mov rfl) ?_
  refine o_vg (v:=.pointer (some ⟨b12,1,none⟩)) (want_cf (t:=49) rfl rfl) (fun hk=>(r_fa fld_api_Arena_1 rfl rfl)) rfl rfl ?_
  refine o_vg (v:=.slice A4 d1.slots.length c5) (want_cf (t:=49) rfl rfl) (fun hk=>(r_ld one_s_api_Entry (gdT hk) ((S12.fr (((G20.trans (Fr.ext F23)).trans (Fr.ext F28)).trans (Fr.ext F34)) (fun _ h=>h)).now.cell rfl))) rfl rfl ?_
  refine o_vg (v:=.int .i64 (d1.slots.length:Int)) (want_cf (t:=49) rfl rfl) (fun hk=>(r_len_slc un_s_api_Entry (gdT hk))) rfl rfl ?_
  refine o_vg (v:=.bool ((d1.slots.length:Int)==(0:Int))) (want_cf (t:=49) rfl rfl) (fun hk=>(r_int (gdT hk) rfl rfl)) rfl rfl ?_
  refine o_w (v:=.bool (((!((fewB d0)&&(fewA d1)))||((checkA d1) != (0:Int)))||((d1.slots.length:Int)==(0:Int)))) (r_pickOr rfl rfl (fun hf=>(gdT (notT hf)))) ?_
  refine eo_nil_sq ?_
  refine ec_cond rfl (fun hc40=>?_) (fun hc40=>?_)
  ·replace h:=h.1 hc40
   refine ec_seq ?_
   refine ec_region ?_
   refine o_w (v:=.bool (worksV)) (r_mov rfl) ?_
   refine o_w (v:=.bool (worksV)) (r_asg rfl) ?_
   refine eo_nil_sq ?_
   refine ec_ret ?_
   refine sq_ret ?_
   subst h
   exact (end1 rfl ⟨_,rfl,E36,rfl⟩)
  ·replace h:=h.2 hc40
   refine ec_skip ?_
   refine sq_n ?_
   refine ec_seq ?_
   refine ec_region ?_
   refine o_w (v:=.agg (cBuf d0 A1 c2).toArray) (r_lda agg_buffer_Buffer rfl (vs:=(cBuf d0 A1 c2)) rfl ((S10.fr G38 (fun _ h=>h)).now.part (n:=3) rfl)) ?_
   refine o_w (v:=.agg (cArena d1 A4 c5 A7 c8).toArray) (r_lda agg_api_Arena rfl (vs:=(cArena d1 A4 c5 A7 c8)) rfl ((S12.fr (((G20.trans (Fr.ext F23)).trans (Fr.ext F28)).trans (Fr.ext F34)) (fun _ h=>h)).now.part (n:=3) rfl)) ?_
   refine o_w (v:=.int .i64 (IntKind.i64.wrap ((Int.tmod (IntKind.i64.wrap d2) (8:Int)) + (1:Int)))) (r_mov rfl) ?_
   obtain ⟨ha42,h⟩:=h
   obtain ⟨ha43,h⟩:=h
   obtain ⟨x41,hx41,h⟩:=h
   refine o_call cf_buffer_Mend rfl (buffer_Mend_c d0 (kBuf_mk (d:=d0) (H3.fr (G30.trans (Fr.ext F34)) (fun _ h=>h))) d1 (kArena_mk (d:=d1) (H6.fr (G30.trans (Fr.ext F34)) (fun _ h=>h)) (H9.fr (G30.trans (Fr.ext F34)) (fun _ h=>h))) (IntKind.i64.wrap ((Int.tmod (IntKind.i64.wrap d2) (8:Int)) + (1:Int))) (hL.fr E36) (eq_ev hx41 (bufMend_ev d0 d1 (IntKind.i64.wrap ((Int.tmod (IntKind.i64.wrap d2) (8:Int)) + (1:Int))) ha42 ha43))) rfl rfl ?_
   rintro _ w41 ⟨F41,cs44,rfl,H45⟩
   have E46:=E36.trans F41
   have G49:=(((G20.trans (Fr.ext F23)).trans (Fr.ext F28)).trans (Fr.ext F34)).trans (Fr.ext F41)
   obtain ⟨A50,c51,rfl,H52⟩:=kBuf_open H45
   refine o_alloc zero_buffer_Buffer rfl rfl rfl ?_
   intro b53 w53 e53 F53 B53
   have n53:w.heap.size≤b53:=by rw [e53]; exact E46.size
   have m54:w.heap.size≤b53:=by rw [e53]; exact ((G30.trans (Fr.ext F34)).trans (Fr.ext F41)).size
   have m55:w10.heap.size≤b53:=by rw [e53]; exact (G38.trans (Fr.ext F41)).size
   have m56:w12.heap.size≤b53:=by rw [e53]; exact G49.size
   have E58:=E46.trans F53
   refine o_store rfl B53 (vs:=(cBuf x41 A50 c51)) rfl sz_buffer_Buffer rfl rfl rfl ?_
   intro w63 F63 B63
   have E64:=Ext.st E58 F63 (by simp; omega)
   have G65:Fr L w w63:=(((G30.trans (Fr.ext F34)).trans (Fr.ext F41)).trans (Fr.ext F53)).stp F63 (upc (.inr m54) (fun m hm=>by cases hm))
   have G66:Fr L w10 w63:=((G38.trans (Fr.ext F41)).trans (Fr.ext F53)).stp F63 (upc (.inr m55) (fun m hm=>by cases hm))
   have G67:Fr L w12 w63:=(G49.trans (Fr.ext F53)).stp F63 (upc (.inr m56) (fun m hm=>by cases hm))
   have B63':Blk w63 b53 _ (cBuf x41 A50 c51):=B63
   refine eo_nil_sq ?_
   refine ec_seq ?_
   refine ec_region ?_
   refine o_w (v:=.agg (cBuf d0 A1 c2).toArray) (r_lda agg_buffer_Buffer rfl (vs:=(cBuf d0 A1 c2)) rfl ((S10.fr G66 (fun _ h=>h)).now.part (n:=3) rfl)) ?_
   refine o_w (v:=.agg (cArena d1 A4 c5 A7 c8).toArray) (r_lda agg_api_Arena rfl (vs:=(cArena d1 A4 c5 A7 c8)) rfl ((S12.fr G67 (fun _ h=>h)).now.part (n:=3) rfl)) ?_
   refine o_w (v:=.int .i64 (IntKind.i64.wrap ((Int.tmod (IntKind.i64.wrap d2) (8:Int)) + (1:Int)))) (r_mov rfl) ?_
   refine o_w (v:=.int .i64 (IntKind.i64.wrap ((Int.tmod (IntKind.i64.wrap d3) (4:Int)) + (1:Int)))) (r_mov rfl) ?_
   obtain ⟨ha70,h⟩:=h
   obtain ⟨ha71,h⟩:=h
   obtain ⟨x69,hx69,h⟩:=h
   refine o_call cf_push_Send rfl (push_Send_c d0 (kBuf_mk (d:=d0) (H3.up G65 (fun _ h=>h) (upc (.inr m54) (fun _ h=>.inl h)))) d1 (kArena_mk (d:=d1) (H6.up G65 (fun _ h=>h) (upc (.inr m54) (fun _ h=>.inl h))) (H9.up G65 (fun _ h=>h) (upc (.inr m54) (fun _ h=>.inl h)))) (IntKind.i64.wrap ((Int.tmod (IntKind.i64.wrap d2) (8:Int)) + (1:Int))) (IntKind.i64.wrap ((Int.tmod (IntKind.i64.wrap d3) (4:Int)) + (1:Int))) ((hL.fr E64).cons B63'.lt) (eq_ev hx69 (puSend_ev d0 d1 (IntKind.i64.wrap ((Int.tmod (IntKind.i64.wrap d2) (8:Int)) + (1:Int))) (IntKind.i64.wrap ((Int.tmod (IntKind.i64.wrap d3) (4:Int)) + (1:Int))) ha70 ha71))) rfl rfl ?_
   rintro _ w69 ⟨F69,cs72,rfl,H73⟩
   have E74:=E64.trans F69
   obtain ⟨A81,c82,rfl,H83,hl80⟩:=kFrm_open H73
   refine o_w (v:=.tuple #[.agg (cFrm x69.1 A81 c82).toArray,.bool x69.2]) (r_mov rfl) ?_
   refine o_w (v:=.agg (cFrm x69.1 A81 c82).toArray) (r_ext rfl rfl) ?_
   refine o_w (v:=.bool x69.2) (r_ext rfl rfl) ?_
   refine o_alloc zero_frame_Frame rfl rfl rfl ?_
   intro b84 w84 e84 F84 B84
   have n84:w.heap.size≤b84:=by rw [e84]; exact E74.size
   have q85:b53<b84:=by rw [e84]; exact (B63'.ex F69).lt
   have m86:w.heap.size≤b84:=by rw [e84]; exact (G65.trans (Fr.ext F69)).size
   have m87:w10.heap.size≤b84:=by rw [e84]; exact (G66.trans (Fr.ext F69)).size
   have m88:w12.heap.size≤b84:=by rw [e84]; exact (G67.trans (Fr.ext F69)).size
   have m90:w69.heap.size≤b84:=Nat.le_of_eq e84.symm
   have E91:=E74.trans F84
   have G96:Fr (b53::L) w69 w84:=Fr.ext F84
   refine o_store rfl B84 (vs:=(cFrm x69.1 A81 c82)) rfl sz_frame_Frame rfl rfl rfl ?_
   intro w98 F98 B98
   have E99:=Ext.st E91 F98 (by simp; omega)
   have G100:Fr L w w98:=((G65.trans (Fr.ext F69)).trans (Fr.ext F84)).stp F98 (upc (.inr m86) (fun m hm=>by cases hm))
   have G101:Fr L w10 w98:=((G66.trans (Fr.ext F69)).trans (Fr.ext F84)).stp F98 (upc (.inr m87) (fun m hm=>by cases hm))
   have G102:Fr L w12 w98:=((G67.trans (Fr.ext F69)).trans (Fr.ext F84)).stp F98 (upc (.inr m88) (fun m hm=>by cases hm))
   have G104:Fr (b53::L) w69 w98:=G96.stp F98 (upc (.inr m90) (fun m hm=>by cases hm))
   have B105:=((B63'.ex F69).ex F84).fr F98 (by simp; omega)
   have B98':Blk w98 b84 _ (cFrm x69.1 A81 c82):=B98
   refine o_w (v:=.bool x69.2) (r_asg rfl) ?_
   refine eo_nil_sq ?_
   refine ec_seq ?_
   refine ec_region ?_
   refine o_w (v:=.agg (cFrm x69.1 A81 c82).toArray) (r_lda agg_frame_Frame rfl (vs:=(cFrm x69.1 A81 c82)) rfl (B98'.part (n:=8) rfl)) ?_
   obtain ⟨ha107,h⟩:=h
   obtain ⟨ha108,h⟩:=h
   obtain ⟨x106,hx106,h⟩:=h
   refine o_call cf_push_Heard rfl (push_Heard_c x69.1 (kFrm_mk (d:=x69.1) (H83.up G104 (fun _ h=>h) (upc (.inr m90) (upc (.inl (List.Mem.head _)) (fun m hm=>Or.inl (List.Mem.tail _ hm))))) hl80) (((hL.fr E99).cons B105.lt).cons B98'.lt) (eq_ev hx106 (puHeard_ev x69.1 ha107 ha108))) rfl rfl ?_
   rintro _ w106 ⟨F106,cs109,rfl,H110⟩
   have E111:=E99.trans F106
   obtain ⟨A120,c121,rfl,H122,hl119⟩:=kFrm_open H110
   refine o_w (v:=.tuple #[.agg (cFrm x106.1 A120 c121).toArray,.bool x106.2]) (r_mov rfl) ?_
   refine o_w (v:=.agg (cFrm x106.1 A120 c121).toArray) (r_ext rfl rfl) ?_
   refine o_w (v:=.bool x106.2) (r_ext rfl rfl) ?_
   refine o_alloc zero_frame_Frame rfl rfl rfl ?_
   intro b123 w123 e123 F123 B123
   have n123:w.heap.size≤b123:=by rw [e123]; exact E111.size
   have q124:b53<b123:=by rw [e123]; exact (B105.ex F106).lt
   have q125:b84<b123:=by rw [e123]; exact (B98'.ex F106).lt
   have m126:w.heap.size≤b123:=by rw [e123]; exact (G100.trans (Fr.ext F106)).size
   have m127:w10.heap.size≤b123:=by rw [e123]; exact (G101.trans (Fr.ext F106)).size
   have m128:w12.heap.size≤b123:=by rw [e123]; exact (G102.trans (Fr.ext F106)).size
   have m131:w106.heap.size≤b123:=Nat.le_of_eq e123.symm
   have E132:=E111.trans F123
   have G138:Fr (b84::(b53::L)) w106 w123:=Fr.ext F123
   refine o_store rfl B123 (vs:=(cFrm x106.1 A120 c121)) rfl sz_frame_Frame rfl rfl rfl ?_
   intro w141 F141 B141
   have E142:=Ext.st E132 F141 (by simp; omega)
   have G143:Fr L w w141:=((G100.trans (Fr.ext F106)).trans (Fr.ext F123)).stp F141 (upc (.inr m126) (fun m hm=>by cases hm))
   have G144:Fr L w10 w141:=((G101.trans (Fr.ext F106)).trans (Fr.ext F123)).stp F141 (upc (.inr m127) (fun m hm=>by cases hm))
   have G145:Fr L w12 w141:=((G102.trans (Fr.ext F106)).trans (Fr.ext F123)).stp F141 (upc (.inr m128) (fun m hm=>by cases hm))
   have G148:Fr (b84::(b53::L)) w106 w141:=G138.stp F141 (upc (.inr m131) (fun m hm=>by cases hm))
   have B149:=((B105.ex F106).ex F123).fr F141 (by simp; omega)
   have B150:=((B98'.ex F106).ex F123).fr F141 (by simp; omega)
   have B141':Blk w141 b123 _ (cFrm x106.1 A120 c121):=B141
   refine o_w (v:=.bool x106.2) (r_asg rfl) ?_
   refine eo_nil_sq ?_
   iterate 2 refine ec_seq ?_
   refine ec_region ?_
   refine o_w (v:=.bool x69.2) (r_mov rfl) ?_
   refine o_w (v:=.bool (!x69.2)) (r_not rfl) ?_
   refine o_w (v:=.bool (!x69.2)) (r_mov rfl) ?_
   refine o_vg (v:=.bool x106.2) (want_cf (t:=75) rfl rfl) (fun hk=>(r_mov rfl)) rfl rfl ?_
   refine o_vg (v:=.bool (!x106.2)) (want_cf (t:=75) rfl rfl) (fun hk=>(r_not (gdT hk))) rfl rfl ?_
   refine o_w (v:=.bool ((!x69.2)||(!x106.2))) (r_pickOr rfl rfl (fun hf=>(gdT (notT hf)))) ?_
   refine o_w (v:=.bool ((!x69.2)||(!x106.2))) (r_mov rfl) ?_
   refine o_vg (v:=.pointer (some ⟨b53,1,none⟩)) (want_cf (t:=79) rfl rfl) (fun hk=>(r_fa fld_buffer_Buffer_1 rfl rfl)) rfl rfl ?_
   refine o_vg (v:=.int .i64 x41.first) (want_cf (t:=79) rfl rfl) (fun hk=>(r_ld one_int (gdT hk) (B149.cell rfl))) rfl rfl ?_
   refine o_vg (v:=.bool (decide ((2147483000:Int)<x41.first))) (want_cf (t:=79) rfl rfl) (fun hk=>(r_int (gdT hk) rfl rfl)) rfl rfl ?_
   refine o_w (v:=.bool (((!x69.2)||(!x106.2))||(decide ((2147483000:Int)<x41.first)))) (r_pickOr rfl rfl (fun hf=>(gdT (notT hf)))) ?_
   refine eo_nil_sq ?_
   refine ec_cond rfl (fun hc151=>?_) (fun hc151=>?_)
   ·replace h:=h.1 hc151
    refine ec_seq ?_
    refine ec_region ?_
    refine o_w (v:=.bool (worksV)) (r_mov rfl) ?_
    refine o_w (v:=.bool (worksV)) (r_asg rfl) ?_
    refine eo_nil_sq ?_
    refine ec_ret ?_
    refine sq_ret ?_
    subst h
    exact (end1 rfl ⟨_,rfl,E142,rfl⟩)
   ·replace h:=h.2 hc151
    refine ec_skip ?_
    refine sq_n ?_
    refine ec_seq ?_
    refine ec_region ?_
    refine o_w (v:=.agg (cBuf d0 A1 c2).toArray) (r_lda agg_buffer_Buffer rfl (vs:=(cBuf d0 A1 c2)) rfl ((S10.fr G144 (fun _ h=>h)).now.part (n:=3) rfl)) ?_
    refine o_w (v:=.agg (cArena d1 A4 c5 A7 c8).toArray) (r_lda agg_api_Arena rfl (vs:=(cArena d1 A4 c5 A7 c8)) rfl ((S12.fr G145 (fun _ h=>h)).now.part (n:=3) rfl)) ?_
    refine o_w (v:=.int .i64 (IntKind.i64.wrap ((Int.tmod (IntKind.i64.wrap d2) (8:Int)) + (1:Int)))) (r_mov rfl) ?_
    refine o_w (v:=.agg (cFrm x106.1 A120 c121).toArray) (r_lda agg_frame_Frame rfl (vs:=(cFrm x106.1 A120 c121)) rfl (B141'.part (n:=8) rfl)) ?_
    obtain ⟨ha153,h⟩:=h
    obtain ⟨ha154,h⟩:=h
    obtain ⟨ha155,h⟩:=h
    obtain ⟨ha156,h⟩:=h
    obtain ⟨x152,hx152,h⟩:=h
    refine o_call cf_push_Done rfl (push_Done_c d0 (kBuf_mk (d:=d0) (H3.up G143 (fun _ h=>h) (upc (.inr m126) (upc (.inr m86) (upc (.inr m54) (fun _ h=>.inl h)))))) d1 (kArena_mk (d:=d1) (H6.up G143 (fun _ h=>h) (upc (.inr m126) (upc (.inr m86) (upc (.inr m54) (fun _ h=>.inl h))))) (H9.up G143 (fun _ h=>h) (upc (.inr m126) (upc (.inr m86) (upc (.inr m54) (fun _ h=>.inl h)))))) (IntKind.i64.wrap ((Int.tmod (IntKind.i64.wrap d2) (8:Int)) + (1:Int))) x106.1 (kFrm_mk (d:=x106.1) (H122.up G148 (fun _ h=>h) (upc (.inr m131) (upc (.inl (List.Mem.head _)) (upc (.inl (List.Mem.tail _ (List.Mem.head _))) (fun m hm=>Or.inl (List.Mem.tail _ (List.Mem.tail _ hm))))))) hl119) ((((hL.fr E142).cons B149.lt).cons B150.lt).cons B141'.lt) (eq_ev hx152 (puDone_ev d0 d1 (IntKind.i64.wrap ((Int.tmod (IntKind.i64.wrap d2) (8:Int)) + (1:Int))) x106.1 ha153 ha154 ha155 ha156))) rfl rfl ?_
    rintro _ w152 ⟨F152,cs157,rfl,H158⟩
    have E159:=E142.trans F152
    obtain ⟨A169,c170,rfl,H171⟩:=kBuf_open H158
    refine o_alloc zero_buffer_Buffer rfl rfl rfl ?_
    intro b172 w172 e172 F172 B172
    have n172:w.heap.size≤b172:=by rw [e172]; exact E159.size
    have q173:b53<b172:=by rw [e172]; exact (B149.ex F152).lt
    have q174:b84<b172:=by rw [e172]; exact (B150.ex F152).lt
    have q175:b123<b172:=by rw [e172]; exact (B141'.ex F152).lt
    have m176:w.heap.size≤b172:=by rw [e172]; exact (G143.trans (Fr.ext F152)).size
    have m178:w12.heap.size≤b172:=by rw [e172]; exact (G145.trans (Fr.ext F152)).size
    have m181:w106.heap.size≤b172:=by rw [e172]; exact (G148.trans (Fr.ext F152)).size
    have m182:w152.heap.size≤b172:=Nat.le_of_eq e172.symm
    have E183:=E159.trans F172
    have G190:Fr (b123::(b84::(b53::L))) w152 w172:=Fr.ext F172
    refine o_store rfl B172 (vs:=(cBuf x152 A169 c170)) rfl sz_buffer_Buffer rfl rfl rfl ?_
    intro w194 F194 B194
    have E195:=Ext.st E183 F194 (by simp; omega)
    have G196:Fr L w w194:=((G143.trans (Fr.ext F152)).trans (Fr.ext F172)).stp F194 (upc (.inr m176) (fun m hm=>by cases hm))
    have G198:Fr L w12 w194:=((G145.trans (Fr.ext F152)).trans (Fr.ext F172)).stp F194 (upc (.inr m178) (fun m hm=>by cases hm))
    have G201:Fr (b84::(b53::L)) w106 w194:=((G148.trans (Fr.ext F152)).trans (Fr.ext F172)).stp F194 (upc (.inr m181) (fun m hm=>by cases hm))
    have G202:Fr (b123::(b84::(b53::L))) w152 w194:=G190.stp F194 (upc (.inr m182) (fun m hm=>by cases hm))
    have B203:=((B149.ex F152).ex F172).fr F194 (by simp; omega)
    have B204:=((B150.ex F152).ex F172).fr F194 (by simp; omega)
    have B205:=((B141'.ex F152).ex F172).fr F194 (by simp; omega)
    have B194':Blk w194 b172 _ (cBuf x152 A169 c170):=B194
    refine eo_nil_sq ?_
    refine ec_seq ?_
    refine ec_region ?_
    refine o_w (v:=.agg (cBuf x152 A169 c170).toArray) (r_lda agg_buffer_Buffer rfl (vs:=(cBuf x152 A169 c170)) rfl (B194'.part (n:=3) rfl)) ?_
    refine o_w (v:=.agg (cArena d1 A4 c5 A7 c8).toArray) (r_lda agg_api_Arena rfl (vs:=(cArena d1 A4 c5 A7 c8)) rfl ((S12.fr G198 (fun _ h=>h)).now.part (n:=3) rfl)) ?_
    refine o_w (v:=.int .i64 (IntKind.i64.wrap ((Int.tmod (IntKind.i64.wrap d2) (8:Int)) + (1:Int)))) (r_mov rfl) ?_
    refine o_w (v:=.agg (cFrm x106.1 A120 c121).toArray) (r_lda agg_frame_Frame rfl (vs:=(cFrm x106.1 A120 c121)) rfl (B205.part (n:=8) rfl)) ?_
    obtain ⟨ha207,h⟩:=h
    obtain ⟨ha208,h⟩:=h
    obtain ⟨ha209,h⟩:=h
    obtain ⟨ha210,h⟩:=h
    obtain ⟨x206,hx206,h⟩:=h
    refine o_call cf_push_Done rfl (push_Done_c x152 (kBuf_mk (d:=x152) (H171.up G202 (fun _ h=>h) (upc (.inr m182) (upc (.inl (List.Mem.head _)) (upc (.inl (List.Mem.tail _ (List.Mem.head _))) (upc (.inl (List.Mem.tail _ (List.Mem.tail _ (List.Mem.head _)))) (fun m hm=>Or.inl (List.Mem.tail _ (List.Mem.tail _ (List.Mem.tail _ hm)))))))))) d1 (kArena_mk (d:=d1) (H6.up G196 (fun _ h=>h) (upc (.inr m176) (upc (.inr m126) (upc (.inr m86) (upc (.inr m54) (fun _ h=>.inl h)))))) (H9.up G196 (fun _ h=>h) (upc (.inr m176) (upc (.inr m126) (upc (.inr m86) (upc (.inr m54) (fun _ h=>.inl h))))))) (IntKind.i64.wrap ((Int.tmod (IntKind.i64.wrap d2) (8:Int)) + (1:Int))) x106.1 (kFrm_mk (d:=x106.1) (H122.up G201 (fun _ h=>h) (upc (.inr m181) (upc (.inr m131) (upc (.inl (List.Mem.head _)) (upc (.inl (List.Mem.tail _ (List.Mem.head _))) (fun m hm=>Or.inl (List.Mem.tail _ (List.Mem.tail _ hm)))))))) hl119) (((((hL.fr E195).cons B203.lt).cons B204.lt).cons B205.lt).cons B194'.lt) (eq_ev hx206 (puDone_ev x152 d1 (IntKind.i64.wrap ((Int.tmod (IntKind.i64.wrap d2) (8:Int)) + (1:Int))) x106.1 ha207 ha208 ha209 ha210))) rfl rfl ?_
    rintro _ w206 ⟨F206,cs211,rfl,H212⟩
    have E213:=E195.trans F206
    obtain ⟨A225,c226,rfl,H227⟩:=kBuf_open H212
    refine o_alloc zero_buffer_Buffer rfl rfl rfl ?_
    intro b228 w228 e228 F228 B228
    have n228:w.heap.size≤b228:=by rw [e228]; exact E213.size
    have q229:b53<b228:=by rw [e228]; exact (B203.ex F206).lt
    have q230:b84<b228:=by rw [e228]; exact (B204.ex F206).lt
    have q231:b123<b228:=by rw [e228]; exact (B205.ex F206).lt
    have q232:b172<b228:=by rw [e228]; exact (B194'.ex F206).lt
    have m233:w.heap.size≤b228:=by rw [e228]; exact (G196.trans (Fr.ext F206)).size
    have m235:w12.heap.size≤b228:=by rw [e228]; exact (G198.trans (Fr.ext F206)).size
    have m238:w106.heap.size≤b228:=by rw [e228]; exact (G201.trans (Fr.ext F206)).size
    have m239:w152.heap.size≤b228:=by rw [e228]; exact (G202.trans (Fr.ext F206)).size
    have m240:w206.heap.size≤b228:=Nat.le_of_eq e228.symm
    have E241:=E213.trans F228
    have G249:Fr (b172::(b123::(b84::(b53::L)))) w206 w228:=Fr.ext F228
    refine o_store rfl B228 (vs:=(cBuf x206 A225 c226)) rfl sz_buffer_Buffer rfl rfl rfl ?_
    intro w254 F254 B254
    have E255:=Ext.st E241 F254 (by simp; omega)
    have G256:Fr L w w254:=((G196.trans (Fr.ext F206)).trans (Fr.ext F228)).stp F254 (upc (.inr m233) (fun m hm=>by cases hm))
    have G258:Fr L w12 w254:=((G198.trans (Fr.ext F206)).trans (Fr.ext F228)).stp F254 (upc (.inr m235) (fun m hm=>by cases hm))
    have G261:Fr (b84::(b53::L)) w106 w254:=((G201.trans (Fr.ext F206)).trans (Fr.ext F228)).stp F254 (upc (.inr m238) (fun m hm=>by cases hm))
    have G262:Fr (b123::(b84::(b53::L))) w152 w254:=((G202.trans (Fr.ext F206)).trans (Fr.ext F228)).stp F254 (upc (.inr m239) (fun m hm=>by cases hm))
    have G263:Fr (b172::(b123::(b84::(b53::L)))) w206 w254:=G249.stp F254 (upc (.inr m240) (fun m hm=>by cases hm))
    have B264:=((B203.ex F206).ex F228).fr F254 (by simp; omega)
    have B265:=((B204.ex F206).ex F228).fr F254 (by simp; omega)
    have B266:=((B205.ex F206).ex F228).fr F254 (by simp; omega)
    have B267:=((B194'.ex F206).ex F228).fr F254 (by simp; omega)
    have B254':Blk w254 b228 _ (cBuf x206 A225 c226):=B254
    refine eo_nil_sq ?_
    refine ec_seq ?_
    obtain ⟨ha281,h⟩:=h
    obtain ⟨ha282,h⟩:=h
    obtain ⟨cs283,l285,H284⟩:=Stb.elem (by decide) (H6.up G256 (fun _ h=>h) (upc (.inr m233) (upc (.inr m176) (upc (.inr m126) (upc (.inr m86) (upc (.inr m54) (fun _ h=>.inl h))))))) (Int.tmod (IntKind.i64.wrap d4) (d1.slots.length:Int)) ha282.1 ha282.2
    obtain ⟨A287,c288,A290,c291,rfl,H286,H289,H292⟩:=kEnt_open2 H284
    refine ec_anyGN (by kernel_rfl) [[],[0],[],[2],[],[4],[4,5],[2,3,4,5,6],[0,1,2,3,4,5,6,7],[0,1,2,3,4,5,6,7,8],[],[0,1,2,3,4,5,6,7,8,9,10]] [22,95,96,97,98,99,100,101,102,103,104] [] [11] 10 0 (fun g w=>∀ b,g=gOf b→Blk w b 48 [str ([]:Str),.int .i64 (0:Int),.int .i64 (0:Int),.int .i64 (0:Int),.bool false,str ([]:Str),.slice none ([]:List Int).length 0,.slice none ([]:List Int).length 0,.int .u64 (0:Int)]) (fun g280=>[own g280]) [[11]] (fun g280=>[fun w'=>(∀ b,g280=gOf b→Blk w' b 48 [str ([]:Str),.int .i64 (0:Int),.int .i64 (0:Int),.int .i64 (0:Int),.bool false,str ([]:Str),.slice none ([]:List Int).length 0,.slice none ([]:List Int).length 0,.int .u64 (0:Int)]),fun w'=>(∀ b,g280=gOf b→Blk w' b 48 (cEnt (nth d1.slots (Int.tmod (IntKind.i64.wrap d4) (d1.slots.length:Int))) A287 c288 A290 c291))]) (fun g280=>[fun v _=>v=(.pointer (some ⟨b12,1,none⟩):Value),fun v _=>v=(.slice A4 d1.slots.length c5:Value),fun v _=>v=(.int .u8 d4:Value),fun v _=>v=(.int .i64 (IntKind.i64.wrap d4):Value),fun v _=>v=(.pointer (some ⟨b12,1,none⟩):Value),fun v _=>v=(.slice A4 d1.slots.length c5:Value),fun v _=>v=(.int .i64 (d1.slots.length:Int):Value),fun v _=>v=(.int .i64 (Int.tmod (IntKind.i64.wrap d4) (d1.slots.length:Int)):Value),fun v _=>v=(.pointer (some (elemA A4 kEnt.n (Int.tmod (IntKind.i64.wrap d4) (d1.slots.length:Int)).toNat)):Value),fun v _=>v=(.agg (cEnt (nth d1.slots (Int.tmod (IntKind.i64.wrap d4) (d1.slots.length:Int))) A287 c288 A290 c291).toArray:Value),fun v w'=>∃ b280_10,v=(.pointer (some ⟨b280_10,0,none⟩):Value)∧g280=gOf b280_10∧w254.heap.size≤b280_10,fun _ _=>True]) (by kernel_rfl) (fun _=>rfl) (fun _=>rfl) (fun g280=>(allM1 (φ:=fun M=>∀ m∈M,m∈[]∨m∈own g280) (fun m hm=>.inr hm) (fun _ h=>by cases h))) (fun g280=>⟨fun _ _ _ _ _ h=>h,fun _ _ _ _ _ h=>h,fun _ _ _ _ _ h=>h,fun _ _ _ _ _ h=>h,fun _ _ _ _ _ h=>h,fun _ _ _ _ _ h=>h,fun _ _ _ _ _ h=>h,fun _ _ _ _ _ h=>h,fun _ _ _ _ _ h=>h,fun _ _ _ _ _ h=>h,fun _ v w' w'' F h=>by obtain ⟨b280_10,hv,heb280_10,lob280_10⟩:=h; exact ⟨b280_10,hv,heb280_10,lob280_10⟩,fun _ _ _ _ _ h=>h,trivial⟩) (fun g280=>⟨⟨fun _ _ _ _ _ _ h=>h,fun _ _ _ _ _ _ h=>h,fun _ _ _ _ _ _ h=>h,fun _ _ _ _ _ _ h=>h,fun _ _ _ _ _ _ h=>h,fun _ _ _ _ _ _ h=>h,fun _ _ _ _ _ _ h=>h,fun _ _ _ _ _ _ h=>h,fun _ _ _ _ _ _ h=>h,fun _ _ _ _ _ _ h=>h,fun _ v w' w'' hg280 F h=>by obtain ⟨b280_10,hv,heb280_10,lob280_10⟩:=h; exact ⟨b280_10,hv,heb280_10,lob280_10⟩,(fun h=>absurd h (by decide)),trivial⟩,trivial⟩) (fun g w hw hg=>⟨fun _ _ _ _ h=>h,fun _ _ _ _ h=>h,fun _ _ _ _ h=>h,fun _ _ _ _ h=>h,fun _ _ _ _ h=>h,fun _ _ _ _ h=>h,fun _ _ _ _ h=>h,fun _ _ _ _ h=>h,fun _ _ _ _ h=>h,fun _ _ _ _ h=>h,(fun h=>absurd h (by decide)),fun _ _ _ _ h=>h,trivial⟩) (fun g280=>⟨fun w' w'' F h=>by have hG280:=h; exact (fun b e=>(hG280 b e).ex F),fun w' w'' F h=>by have hG280:=h; exact (fun b e=>(hG280 b e).ex F),trivial⟩) (fun b e=>absurd e gNil_ne) (fun k hk g w w' hw hg F hX hI=>match k,hk,hI with | 0,_,hI=>by have hG280:=hI; exact hX | k + 1,hk,_=>absurd hk (by omega)) ?_ ?_ ?_ ?_
    ·refine ⟨?_,?_,?_,?_,?_,?_,?_,?_,?_,?_,?_,?_,trivial⟩
     ·intro _ _ g280 ρ w280o hg280 F280o hX hS hρ
      have F280o:=hX 11 rfl rfl
      have q6:ρ 6=.pointer (some ⟨b12,0,none⟩):=hρ 6 (by kernel_rfl)
      exact o_q (r_fa fld_api_Arena_1 rfl q6) ⟨Fr.refl _ _,rfl⟩
     ·intro _ _ g280 ρ w280o hg280 F280o hX hS hρ
      have F280o:=hX 11 rfl rfl
      have q95:ρ 95=.pointer (some ⟨b12,1,none⟩):=hS 0 (by decide) 95 rfl
      exact o_q (r_ld one_s_api_Entry q95 ((S12.fr (G258.trans (Fr.ext F280o)) (fun _ h=>h)).now.cell rfl)) ⟨Fr.refl _ _,rfl⟩
     ·intro _ _ g280 ρ w280o hg280 F280o hX hS hρ
      have F280o:=hX 11 rfl rfl
      have q4:ρ 4=.int .u8 d4:=hρ 4 (by kernel_rfl)
      exact o_q (r_mov q4) ⟨Fr.refl _ _,rfl⟩
     ·intro _ _ g280 ρ w280o hg280 F280o hX hS hρ
      have F280o:=hX 11 rfl rfl
      have q97:ρ 97=.int .u8 d4:=hS 2 (by decide) 97 rfl
      exact o_q (r_conv un_uint8 un_int q97) ⟨Fr.refl _ _,rfl⟩
     ·intro _ _ g280 ρ w280o hg280 F280o hX hS hρ
      have F280o:=hX 11 rfl rfl
      have q6:ρ 6=.pointer (some ⟨b12,0,none⟩):=hρ 6 (by kernel_rfl)
      exact o_q (r_fa fld_api_Arena_1 rfl q6) ⟨Fr.refl _ _,rfl⟩
     ·intro _ _ g280 ρ w280o hg280 F280o hX hS hρ
      have F280o:=hX 11 rfl rfl
      have q99:ρ 99=.pointer (some ⟨b12,1,none⟩):=hS 4 (by decide) 99 rfl
      exact o_q (r_ld one_s_api_Entry q99 ((S12.fr (G258.trans (Fr.ext F280o)) (fun _ h=>h)).now.cell rfl)) ⟨Fr.refl _ _,rfl⟩
     ·intro _ _ g280 ρ w280o hg280 F280o hX hS hρ
      have F280o:=hX 11 rfl rfl
      have q100:ρ 100=.slice A4 d1.slots.length c5:=hS 5 (by decide) 100 rfl
      exact o_q (r_len_slc un_s_api_Entry q100) ⟨Fr.refl _ _,rfl⟩
     ·intro _ _ g280 ρ w280o hg280 F280o hX hS hρ
      have F280o:=hX 11 rfl rfl
      have q98:ρ 98=.int .i64 (IntKind.i64.wrap d4):=hS 3 (by decide) 98 rfl
      have q101:ρ 101=.int .i64 (d1.slots.length:Int):=hS 6 (by decide) 101 rfl
      exact o_q (r_rem q98 q101 ha281) ⟨Fr.refl _ _,rfl⟩
     ·intro _ _ g280 ρ w280o hg280 F280o hX hS hρ
      have F280o:=hX 11 rfl rfl
      have q96:ρ 96=.slice A4 d1.slots.length c5:=hS 1 (by decide) 96 rfl
      have q102:ρ 102=.int .i64 (Int.tmod (IntKind.i64.wrap d4) (d1.slots.length:Int)):=hS 7 (by decide) 102 rfl
      exact o_q (r_ia slc_s_api_Entry q96 q102 ((H6.fr (G256.trans (Fr.ext F280o)) (fun _ h=>h)).now.2 _ (lt_toNat ha282.1 ha282.2)).1 ha282.1 ha282.2) ⟨Fr.refl _ _,rfl⟩
     ·intro _ _ g280 ρ w280o hg280 F280o hX hS hρ
      have F280o:=hX 11 rfl rfl
      have G347:Fr (b228::(b172::(b123::(b84::(b53::L))))) w254 w280o:=Fr.ext F280o
      have q103:ρ 103=.pointer (some (elemA A4 kEnt.n (Int.tmod (IntKind.i64.wrap d4) (d1.slots.length:Int)).toNat)):=hS 8 (by decide) 103 rfl
      exact o_q (r_lda' agg_api_Entry q103 (elemA_spot _ _ _) (vs:=(cEnt (nth d1.slots (Int.tmod (IntKind.i64.wrap d4) (d1.slots.length:Int))) A287 c288 A290 c291)) rfl ((H286.fr G347 (fun _ h=>h)).now.1)) ⟨Fr.refl _ _,rfl⟩
     ·intro _ hT; exact absurd hT (by decide)
     ·intro hT; exact absurd hT (by decide)
    ·intro o ho ρ w280o F280o hX hS hρ; cases Option.some.inj ho; refine o_alloc zero_api_Entry rfl rfl rfl ?_; intro b w' e F B; subst e
     exact eo_nil ⟨rfl,rfl,_,rfl,F,gOf _,(fun m hm=>by rw [own_gOf,List.mem_singleton] at hm; subst hm; exact ⟨Nat.le_refl _,B.lt⟩),(fun b e=>by obtain rfl:=gOf_inj e; exact B),_,rfl,rfl,F280o.size⟩
    ·refine ⟨⟨_,rfl,?_⟩,trivial⟩
     ·intro g280 ρ w280o hg280 F280o hX hI hS hρ
      have hG280:=hI
      obtain ⟨b280_10,q22,heb280_10,lob280_10⟩:=hS 10 (by decide) 22 rfl
      have q104:ρ 104=.agg (cEnt (nth d1.slots (Int.tmod (IntKind.i64.wrap d4) (d1.slots.length:Int))) A287 c288 A290 c291).toArray:=hS 9 (by decide) 104 rfl
      subst heb280_10
      have hB280_b280_10:=hG280 _ rfl
      refine o_store (show ev ρ _=_ from q22) hB280_b280_10 (vs:=[str ((nth d1.slots (Int.tmod (IntKind.i64.wrap d4) (d1.slots.length:Int))).key),.int .i64 (((nth d1.slots (Int.tmod (IntKind.i64.wrap d4) (d1.slots.length:Int))).val).kind),.int .i64 (((nth d1.slots (Int.tmod (IntKind.i64.wrap d4) (d1.slots.length:Int))).val).time),.int .i64 (((nth d1.slots (Int.tmod (IntKind.i64.wrap d4) (d1.slots.length:Int))).val).node),.bool (((nth d1.slots (Int.tmod (IntKind.i64.wrap d4) (d1.slots.length:Int))).val).dead),str (((nth d1.slots (Int.tmod (IntKind.i64.wrap d4) (d1.slots.length:Int))).val).text),.slice A287 (((nth d1.slots (Int.tmod (IntKind.i64.wrap d4) (d1.slots.length:Int))).val).plus).length c288,.slice A290 (((nth d1.slots (Int.tmod (IntKind.i64.wrap d4) (d1.slots.length:Int))).val).minus).length c291,.int .u64 (((nth d1.slots (Int.tmod (IntKind.i64.wrap d4) (d1.slots.length:Int))).val).flags)]) (congrArg Value.cells q104) sz_api_Entry rfl rfl rfl ?_
      intro w' F B2
      exact eo_nil ⟨rfl,rfl,undef,rfl,F,(fun b e=>by obtain rfl:=gOf_inj e; exact B2),trivial⟩
    ·intro g280 ρ w280 hg280 F280 hI hS hρ
     have hG280:=hI
     obtain ⟨b280_10,q22,heb280_10,lob280_10⟩:=hS 10 22 rfl
     subst heb280_10
     have hB280_b280_10:=hG280 _ rfl
     obtain ⟨ρ',rfl⟩:∃ ρ',ρ=envs (ovr [22,95,96,97,98,99,100,101,102,103,104] ρ' _) [(22,.pointer (some ⟨b280_10,0,none⟩))]:=⟨ρ,ovr_self hρ ⟨q22,trivial⟩⟩
     have n280_10:w.heap.size≤b280_10:=Nat.le_trans E255.size lob280_10
     have q368:b53<b280_10:=Nat.lt_of_lt_of_le B264.lt lob280_10
     have q369:b84<b280_10:=Nat.lt_of_lt_of_le B265.lt lob280_10
     have q370:b123<b280_10:=Nat.lt_of_lt_of_le B266.lt lob280_10
     have q371:b172<b280_10:=Nat.lt_of_lt_of_le B267.lt lob280_10
     have q372:b228<b280_10:=Nat.lt_of_lt_of_le B254'.lt lob280_10
     have m373:w.heap.size≤b280_10:=Nat.le_trans G256.size lob280_10
     have m378:w106.heap.size≤b280_10:=Nat.le_trans G261.size lob280_10
     have m379:w152.heap.size≤b280_10:=Nat.le_trans G262.size lob280_10
     have m380:w206.heap.size≤b280_10:=Nat.le_trans G263.size lob280_10
     have m381:w254.heap.size≤b280_10:=lob280_10
     have E382:=E255.trans F280
     have G391:Fr (b228::(b172::(b123::(b84::(b53::L))))) w254 w280:=Fr.ext F280
     refine sq_n ?_
     refine ec_seq ?_
     obtain ⟨ha399,h⟩:=h
     obtain ⟨ha400,h⟩:=h
     obtain ⟨x398,hx398,h⟩:=h
     obtain ⟨ha405,h⟩:=h
     obtain ⟨ha406,h⟩:=h
     obtain ⟨ha407,h⟩:=h
     obtain ⟨ha408,h⟩:=h
     obtain ⟨x404,hx404,h⟩:=h
     refine ec_anyGN (by kernel_rfl) [[],[],[],[],[0,1,2,3],[],[],[],[0,1,2,3,4,5,6,7],[],[0,1,2,3,4,5,6,7,8,9]] [23,105,106,107,108,109,110,111,112,113] [] [10] 9 0 (fun g w=>∀ b,g=gOf b→Blk w b 24 [.int .i64 (0:Int),.int .i64 (0:Int),.slice none ([]:List Nm).length 0]) (fun g397=>[own g397]) [[10]] (fun g397=>[fun w'=>(∀ b,g397=gOf b→Blk w' b 24 [.int .i64 (0:Int),.int .i64 (0:Int),.slice none ([]:List Nm).length 0]),fun w'=>∃ A409 c410,Stb (own g397++(b280_10::(b228::(b172::(b123::(b84::(b53::L))))))) w' (fun w=>SlC kNm w A409 c410 x404.names)∧(∀ b,g397=gOf b→Blk w' b 24 (cBuf x404 A409 c410))]) (fun g397=>[fun v _=>v=(.agg (cBuf x152 A169 c170).toArray:Value),fun v _=>v=(.agg (cArena d1 A4 c5 A7 c8).toArray:Value),fun v _=>v=(.int .i64 (IntKind.i64.wrap ((Int.tmod (IntKind.i64.wrap d2) (8:Int)) + (1:Int))):Value),fun v _=>v=(.agg (cEnt (nth d1.slots (Int.tmod (IntKind.i64.wrap d4) (d1.slots.length:Int))) A287 c288 A290 c291).toArray:Value),fun v w'=>∃ A401 c402,v=(.agg (cBuf x398 A401 c402).toArray:Value)∧Stb (own g397++(b280_10::(b228::(b172::(b123::(b84::(b53::L))))))) w' (fun w=>SlC kNm w A401 c402 x398.names),fun v _=>v=(.agg (cArena d1 A4 c5 A7 c8).toArray:Value),fun v _=>v=(.int .i64 (IntKind.i64.wrap ((Int.tmod (IntKind.i64.wrap d2) (8:Int)) + (1:Int))):Value),fun v _=>v=(.agg (cFrm x106.1 A120 c121).toArray:Value),fun v w'=>∃ A409 c410,v=(.agg (cBuf x404 A409 c410).toArray:Value)∧Stb (own g397++(b280_10::(b228::(b172::(b123::(b84::(b53::L))))))) w' (fun w=>SlC kNm w A409 c410 x404.names),fun v w'=>∃ b397_9,v=(.pointer (some ⟨b397_9,0,none⟩):Value)∧g397=gOf b397_9∧w280.heap.size≤b397_9,fun _ _=>True]) (by kernel_rfl) (fun _=>rfl) (fun _=>rfl) (fun g397=>(allM1 (φ:=fun M=>∀ m∈M,m∈[]∨m∈own g397) (fun m hm=>.inr hm) (fun _ h=>by cases h))) (fun g397=>⟨fun _ _ _ _ _ h=>h,fun _ _ _ _ _ h=>h,fun _ _ _ _ _ h=>h,fun _ _ _ _ _ h=>h,fun _ v w' w'' F h=>by obtain ⟨A401,c402,hv,H403⟩:=h; exact ⟨A401,c402,hv,(H403.ex F)⟩,fun _ _ _ _ _ h=>h,fun _ _ _ _ _ h=>h,fun _ _ _ _ _ h=>h,fun _ v w' w'' F h=>by obtain ⟨A409,c410,hv,H411⟩:=h; exact ⟨A409,c410,hv,(H411.ex F)⟩,fun _ v w' w'' F h=>by obtain ⟨b397_9,hv,heb397_9,lob397_9⟩:=h; exact ⟨b397_9,hv,heb397_9,lob397_9⟩,fun _ _ _ _ _ h=>h,trivial⟩) (fun g397=>⟨⟨fun _ _ _ _ _ _ h=>h,fun _ _ _ _ _ _ h=>h,fun _ _ _ _ _ _ h=>h,fun _ _ _ _ _ _ h=>h,fun _ v w' w'' hg397 F h=>by obtain ⟨A401,c402,hv,H403⟩:=h; exact ⟨A401,c402,hv,(H403.fr F (fun m hm=>List.mem_append_left _ hm))⟩,fun _ _ _ _ _ _ h=>h,fun _ _ _ _ _ _ h=>h,fun _ _ _ _ _ _ h=>h,fun _ v w' w'' hg397 F h=>by obtain ⟨A409,c410,hv,H411⟩:=h; exact ⟨A409,c410,hv,(H411.fr F (fun m hm=>List.mem_append_left _ hm))⟩,fun _ v w' w'' hg397 F h=>by obtain ⟨b397_9,hv,heb397_9,lob397_9⟩:=h; exact ⟨b397_9,hv,heb397_9,lob397_9⟩,(fun h=>absurd h (by decide)),trivial⟩,trivial⟩) (fun g w hw hg=>⟨fun _ _ _ _ h=>h,fun _ _ _ _ h=>h,fun _ _ _ _ h=>h,fun _ _ _ _ h=>h,fun _ v w' F h=>by obtain ⟨A401,c402,hv,H403⟩:=h; exact ⟨A401,c402,hv,(stb_born H403 hg F)⟩,fun _ _ _ _ h=>h,fun _ _ _ _ h=>h,fun _ _ _ _ h=>h,fun _ v w' F h=>by obtain ⟨A409,c410,hv,H411⟩:=h; exact ⟨A409,c410,hv,(stb_born H411 hg F)⟩,(fun h=>absurd h (by decide)),fun _ _ _ _ h=>h,trivial⟩) (fun g397=>⟨fun w' w'' F h=>by have hG397:=h; exact (fun b e=>(hG397 b e).ex F),fun w' w'' F h=>by obtain ⟨A409,c410,H411,hG397⟩:=h; exact ⟨A409,c410,(H411.ex F),(fun b e=>(hG397 b e).ex F)⟩,trivial⟩) (fun b e=>absurd e gNil_ne) (fun k hk g w w' hw hg F hX hI=>match k,hk,hI with | 0,_,hI=>by have hG397:=hI; exact hX | k + 1,hk,_=>absurd hk (by omega)) ?_ ?_ ?_ ?_
     ·refine ⟨?_,?_,?_,?_,?_,?_,?_,?_,?_,?_,?_,trivial⟩
      ·intro _ _ g397 ρ w397o hg397 F397o hX hS hρ
       have F397o:=hX 10 rfl rfl
       have q20:ρ 20=.pointer (some ⟨b172,0,none⟩):=hρ 20 (by kernel_rfl)
       exact o_q (r_lda agg_buffer_Buffer q20 (vs:=(cBuf x152 A169 c170)) rfl (((B267.ex F280).ex F397o).part (n:=3) rfl)) ⟨Fr.refl _ _,rfl⟩
      ·intro _ _ g397 ρ w397o hg397 F397o hX hS hρ
       have F397o:=hX 10 rfl rfl
       have q6:ρ 6=.pointer (some ⟨b12,0,none⟩):=hρ 6 (by kernel_rfl)
       exact o_q (r_lda agg_api_Arena q6 (vs:=(cArena d1 A4 c5 A7 c8)) rfl ((S12.fr ((G258.trans (Fr.ext F280)).trans (Fr.ext F397o)) (fun _ h=>h)).now.part (n:=3) rfl)) ⟨Fr.refl _ _,rfl⟩
      ·intro _ _ g397 ρ w397o hg397 F397o hX hS hρ
       have F397o:=hX 10 rfl rfl
       have q13:ρ 13=.int .i64 (IntKind.i64.wrap ((Int.tmod (IntKind.i64.wrap d2) (8:Int)) + (1:Int))):=hρ 13 (by kernel_rfl)
       exact o_q (r_mov q13) ⟨Fr.refl _ _,rfl⟩
      ·intro _ _ g397 ρ w397o hg397 F397o hX hS hρ
       have F397o:=hX 10 rfl rfl
       have q22:ρ 22=.pointer (some ⟨b280_10,0,none⟩):=hρ 22 (by kernel_rfl)
       exact o_q (r_lda agg_api_Entry q22 (vs:=(cEnt (nth d1.slots (Int.tmod (IntKind.i64.wrap d4) (d1.slots.length:Int))) A287 c288 A290 c291)) rfl ((hB280_b280_10.ex F397o).part (n:=9) rfl)) ⟨Fr.refl _ _,rfl⟩
      ·intro _ _ g397 ρ w397o hg397 F397o hX hS hρ
       have F397o:=hX 10 rfl rfl
       have E460:=E382.trans F397o
       have q105:ρ 105=.agg (cBuf x152 A169 c170).toArray:=hS 0 (by decide) 105 rfl
       have q106:ρ 106=.agg (cArena d1 A4 c5 A7 c8).toArray:=hS 1 (by decide) 106 rfl
       have q107:ρ 107=.int .i64 (IntKind.i64.wrap ((Int.tmod (IntKind.i64.wrap d2) (8:Int)) + (1:Int))):=hS 2 (by decide) 107 rfl
       have q108:ρ 108=.agg (cEnt (nth d1.slots (Int.tmod (IntKind.i64.wrap d4) (d1.slots.length:Int))) A287 c288 A290 c291).toArray:=hS 3 (by decide) 108 rfl
       refine o_call cf_buffer_Note (by simp only [List.map,ev,q105,q106,q107,q108] <;> rfl) (buffer_Note_c x152 (kBuf_mk (d:=x152) (H171.up ((G262.trans (Fr.ext F280)).trans (Fr.ext F397o)) (fun _ h=>h) (upo (fun m hm=>.inr (Nat.le_trans ((G262.trans (Fr.ext F280)).size) (hg397 m hm).1)) (upc (.inr m379) (upc (.inr m239) (upc (.inr m182) (upc (.inl (List.Mem.head _)) (upc (.inl (List.Mem.tail _ (List.Mem.head _))) (upc (.inl (List.Mem.tail _ (List.Mem.tail _ (List.Mem.head _)))) (fun m hm=>Or.inl (List.Mem.tail _ (List.Mem.tail _ (List.Mem.tail _ hm))))))))))))) d1 (kArena_mk (d:=d1) (H6.up ((G256.trans (Fr.ext F280)).trans (Fr.ext F397o)) (fun _ h=>h) (upo (fun m hm=>.inr (Nat.le_trans ((G256.trans (Fr.ext F280)).size) (hg397 m hm).1)) (upc (.inr m373) (upc (.inr m233) (upc (.inr m176) (upc (.inr m126) (upc (.inr m86) (upc (.inr m54) (fun _ h=>.inl h))))))))) (H9.up ((G256.trans (Fr.ext F280)).trans (Fr.ext F397o)) (fun _ h=>h) (upo (fun m hm=>.inr (Nat.le_trans ((G256.trans (Fr.ext F280)).size) (hg397 m hm).1)) (upc (.inr m373) (upc (.inr m233) (upc (.inr m176) (upc (.inr m126) (upc (.inr m86) (upc (.inr m54) (fun _ h=>.inl h)))))))))) (IntKind.i64.wrap ((Int.tmod (IntKind.i64.wrap d2) (8:Int)) + (1:Int))) (nth d1.slots (Int.tmod (IntKind.i64.wrap d4) (d1.slots.length:Int))) (kEnt_mk (d:=(nth d1.slots (Int.tmod (IntKind.i64.wrap d4) (d1.slots.length:Int)))) (H289.up (G391.trans (Fr.ext F397o)) (fun _ h=>h) (upo (fun m hm=>.inr (Nat.le_trans (G391.size) (hg397 m hm).1)) (upc (.inr m381) (upc (.inl (List.Mem.head _)) (upc (.inl (List.Mem.tail _ (List.Mem.head _))) (upc (.inl (List.Mem.tail _ (List.Mem.tail _ (List.Mem.head _)))) (upc (.inl (List.Mem.tail _ (List.Mem.tail _ (List.Mem.tail _ (List.Mem.head _))))) (upc (.inl (List.Mem.tail _ (List.Mem.tail _ (List.Mem.tail _ (List.Mem.tail _ (List.Mem.head _)))))) (fun m hm=>Or.inl (List.Mem.tail _ (List.Mem.tail _ (List.Mem.tail _ (List.Mem.tail _ (List.Mem.tail _ hm)))))))))))))) (H292.up (G391.trans (Fr.ext F397o)) (fun _ h=>h) (upo (fun m hm=>.inr (Nat.le_trans (G391.size) (hg397 m hm).1)) (upc (.inr m381) (upc (.inl (List.Mem.head _)) (upc (.inl (List.Mem.tail _ (List.Mem.head _))) (upc (.inl (List.Mem.tail _ (List.Mem.tail _ (List.Mem.head _)))) (upc (.inl (List.Mem.tail _ (List.Mem.tail _ (List.Mem.tail _ (List.Mem.head _))))) (upc (.inl (List.Mem.tail _ (List.Mem.tail _ (List.Mem.tail _ (List.Mem.tail _ (List.Mem.head _)))))) (fun m hm=>Or.inl (List.Mem.tail _ (List.Mem.tail _ (List.Mem.tail _ (List.Mem.tail _ (List.Mem.tail _ hm))))))))))))))) (lt_ghost (((((((hL.fr E460).cons ((B264.ex F280).ex F397o).lt).cons ((B265.ex F280).ex F397o).lt).cons ((B266.ex F280).ex F397o).lt).cons ((B267.ex F280).ex F397o).lt).cons ((B254'.ex F280).ex F397o).lt).cons (hB280_b280_10.ex F397o).lt) hg397) (eq_ev hx398 (bufNote_ev x152 d1 (IntKind.i64.wrap ((Int.tmod (IntKind.i64.wrap d2) (8:Int)) + (1:Int))) (nth d1.slots (Int.tmod (IntKind.i64.wrap d4) (d1.slots.length:Int))) ha399 ha400))) rfl rfl ?_
       rintro _ w' ⟨F,cs476,rfl,H477⟩
       obtain ⟨A401,c402,rfl,H403⟩:=kBuf_open H477
       exact eo_nil ⟨rfl,rfl,_,rfl,F,⟨A401,c402,rfl,H403⟩⟩
      ·intro _ _ g397 ρ w397o hg397 F397o hX hS hρ
       have F397o:=hX 10 rfl rfl
       have q6:ρ 6=.pointer (some ⟨b12,0,none⟩):=hρ 6 (by kernel_rfl)
       exact o_q (r_lda agg_api_Arena q6 (vs:=(cArena d1 A4 c5 A7 c8)) rfl ((S12.fr ((G258.trans (Fr.ext F280)).trans (Fr.ext F397o)) (fun _ h=>h)).now.part (n:=3) rfl)) ⟨Fr.refl _ _,rfl⟩
      ·intro _ _ g397 ρ w397o hg397 F397o hX hS hρ
       have F397o:=hX 10 rfl rfl
       have q13:ρ 13=.int .i64 (IntKind.i64.wrap ((Int.tmod (IntKind.i64.wrap d2) (8:Int)) + (1:Int))):=hρ 13 (by kernel_rfl)
       exact o_q (r_mov q13) ⟨Fr.refl _ _,rfl⟩
      ·intro _ _ g397 ρ w397o hg397 F397o hX hS hρ
       have F397o:=hX 10 rfl rfl
       have q18:ρ 18=.pointer (some ⟨b123,0,none⟩):=hρ 18 (by kernel_rfl)
       exact o_q (r_lda agg_frame_Frame q18 (vs:=(cFrm x106.1 A120 c121)) rfl (((B266.ex F280).ex F397o).part (n:=8) rfl)) ⟨Fr.refl _ _,rfl⟩
      ·intro _ _ g397 ρ w397o hg397 F397o hX hS hρ
       have F397o:=hX 10 rfl rfl
       have E510:=E382.trans F397o
       obtain ⟨A401,c402,q109,H403⟩:=hS 4 (by decide) 109 rfl
       have q110:ρ 110=.agg (cArena d1 A4 c5 A7 c8).toArray:=hS 5 (by decide) 110 rfl
       have q111:ρ 111=.int .i64 (IntKind.i64.wrap ((Int.tmod (IntKind.i64.wrap d2) (8:Int)) + (1:Int))):=hS 6 (by decide) 111 rfl
       have q112:ρ 112=.agg (cFrm x106.1 A120 c121).toArray:=hS 7 (by decide) 112 rfl
       refine o_call cf_push_Done (by simp only [List.map,ev,q109,q110,q111,q112] <;> rfl) (push_Done_c x398 (kBuf_mk (d:=x398) H403) d1 (kArena_mk (d:=d1) (H6.up ((G256.trans (Fr.ext F280)).trans (Fr.ext F397o)) (fun _ h=>h) (upo (fun m hm=>.inr (Nat.le_trans ((G256.trans (Fr.ext F280)).size) (hg397 m hm).1)) (upc (.inr m373) (upc (.inr m233) (upc (.inr m176) (upc (.inr m126) (upc (.inr m86) (upc (.inr m54) (fun _ h=>.inl h))))))))) (H9.up ((G256.trans (Fr.ext F280)).trans (Fr.ext F397o)) (fun _ h=>h) (upo (fun m hm=>.inr (Nat.le_trans ((G256.trans (Fr.ext F280)).size) (hg397 m hm).1)) (upc (.inr m373) (upc (.inr m233) (upc (.inr m176) (upc (.inr m126) (upc (.inr m86) (upc (.inr m54) (fun _ h=>.inl h)))))))))) (IntKind.i64.wrap ((Int.tmod (IntKind.i64.wrap d2) (8:Int)) + (1:Int))) x106.1 (kFrm_mk (d:=x106.1) (H122.up ((G261.trans (Fr.ext F280)).trans (Fr.ext F397o)) (fun _ h=>h) (upo (fun m hm=>.inr (Nat.le_trans ((G261.trans (Fr.ext F280)).size) (hg397 m hm).1)) (upc (.inr m378) (upc (.inr m238) (upc (.inr m181) (upc (.inr m131) (upc (.inl (List.Mem.head _)) (upc (.inl (List.Mem.tail _ (List.Mem.head _))) (fun m hm=>Or.inl (List.Mem.tail _ (List.Mem.tail _ hm))))))))))) hl119) (lt_ghost (((((((hL.fr E510).cons ((B264.ex F280).ex F397o).lt).cons ((B265.ex F280).ex F397o).lt).cons ((B266.ex F280).ex F397o).lt).cons ((B267.ex F280).ex F397o).lt).cons ((B254'.ex F280).ex F397o).lt).cons (hB280_b280_10.ex F397o).lt) hg397) (eq_ev hx404 (puDone_ev x398 d1 (IntKind.i64.wrap ((Int.tmod (IntKind.i64.wrap d2) (8:Int)) + (1:Int))) x106.1 ha405 ha406 ha407 ha408))) rfl rfl ?_
       rintro _ w' ⟨F,cs526,rfl,H527⟩
       obtain ⟨A409,c410,rfl,H411⟩:=kBuf_open H527
       exact eo_nil ⟨rfl,rfl,_,rfl,F,⟨A409,c410,rfl,H411⟩⟩
      ·intro _ hT; exact absurd hT (by decide)
      ·intro hT; exact absurd hT (by decide)
     ·intro o ho ρ w397o F397o hX hS hρ; cases Option.some.inj ho; refine o_alloc zero_buffer_Buffer rfl rfl rfl ?_; intro b w' e F B; subst e
      exact eo_nil ⟨rfl,rfl,_,rfl,F,gOf _,(fun m hm=>by rw [own_gOf,List.mem_singleton] at hm; subst hm; exact ⟨Nat.le_refl _,B.lt⟩),(fun b e=>by obtain rfl:=gOf_inj e; exact B),_,rfl,rfl,F397o.size⟩
     ·refine ⟨⟨_,rfl,?_⟩,trivial⟩
      ·intro g397 ρ w397o hg397 F397o hX hI hS hρ
       have hG397:=hI
       obtain ⟨b397_9,q23,heb397_9,lob397_9⟩:=hS 9 (by decide) 23 rfl
       obtain ⟨A409,c410,q113,H411⟩:=hS 8 (by decide) 113 rfl
       subst heb397_9
       have hB397_b397_9:=hG397 _ rfl
       refine o_store (show ev ρ _=_ from q23) hB397_b397_9 (vs:=[.int .i64 x404.epoch,.int .i64 x404.first,.slice A409 x404.names.length c410]) (congrArg Value.cells q113) sz_buffer_Buffer rfl rfl rfl ?_
       intro w' F B2
       exact eo_nil ⟨rfl,rfl,undef,rfl,F,⟨A409,c410,(H411.fr F (fun m hm=>List.mem_append_left _ hm)),(fun b e=>by obtain rfl:=gOf_inj e; exact B2)⟩,trivial⟩
     ·intro g397 ρ w397 hg397 F397 hI hS hρ
      obtain ⟨A409,c410,H411,hG397⟩:=hI
      obtain ⟨b397_9,q23,heb397_9,lob397_9⟩:=hS 9 23 rfl
      subst heb397_9
      have hB397_b397_9:=hG397 _ rfl
      have H411:Stb (b397_9::(b280_10::(b228::(b172::(b123::(b84::(b53::L))))))) w397 (fun w=>SlC kNm w A409 c410 x404.names):=H411
      obtain ⟨ρ',rfl⟩:∃ ρ',ρ=envs (ovr [23,105,106,107,108,109,110,111,112,113] ρ' _) [(23,.pointer (some ⟨b397_9,0,none⟩))]:=⟨ρ,ovr_self hρ ⟨q23,trivial⟩⟩
      have n397_9:w.heap.size≤b397_9:=Nat.le_trans E382.size lob397_9
      have q544:b53<b397_9:=Nat.lt_of_lt_of_le (B264.ex F280).lt lob397_9
      have q545:b84<b397_9:=Nat.lt_of_lt_of_le (B265.ex F280).lt lob397_9
      have q546:b123<b397_9:=Nat.lt_of_lt_of_le (B266.ex F280).lt lob397_9
      have q547:b172<b397_9:=Nat.lt_of_lt_of_le (B267.ex F280).lt lob397_9
      have q548:b228<b397_9:=Nat.lt_of_lt_of_le (B254'.ex F280).lt lob397_9
      have q549:b280_10<b397_9:=Nat.lt_of_lt_of_le hB280_b280_10.lt lob397_9
      have m550:w.heap.size≤b397_9:=Nat.le_trans (G256.trans (Fr.ext F280)).size lob397_9
      have m556:w152.heap.size≤b397_9:=Nat.le_trans (G262.trans (Fr.ext F280)).size lob397_9
      have m557:w206.heap.size≤b397_9:=Nat.le_trans (G263.trans (Fr.ext F280)).size lob397_9
      have m558:w254.heap.size≤b397_9:=Nat.le_trans G391.size lob397_9
      have E559:=E382.trans F397
      have Z397:=Fr.refl (b397_9::(b280_10::(b228::(b172::(b123::(b84::(b53::L))))))) w397
      refine sq_n ?_
      refine ec_seq ?_
      refine ec_region ?_
      refine o_w (v:=.agg (cBuf x152 A169 c170).toArray) (r_lda agg_buffer_Buffer rfl (vs:=(cBuf x152 A169 c170)) rfl (((B267.ex F280).ex F397).part (n:=3) rfl)) ?_
      refine o_w (v:=.agg (cArena d1 A4 c5 A7 c8).toArray) (r_lda agg_api_Arena rfl (vs:=(cArena d1 A4 c5 A7 c8)) rfl ((S12.fr ((G258.trans (Fr.ext F280)).trans (Fr.ext F397)) (fun _ h=>h)).now.part (n:=3) rfl)) ?_
      refine o_w (v:=.int .i64 (IntKind.i64.wrap ((Int.tmod (IntKind.i64.wrap d2) (8:Int)) + (1:Int)))) (r_mov rfl) ?_
      refine o_w (v:=.agg (cEnt (nth d1.slots (Int.tmod (IntKind.i64.wrap d4) (d1.slots.length:Int))) A287 c288 A290 c291).toArray) (r_lda agg_api_Entry rfl (vs:=(cEnt (nth d1.slots (Int.tmod (IntKind.i64.wrap d4) (d1.slots.length:Int))) A287 c288 A290 c291)) rfl ((hB280_b280_10.ex F397).part (n:=9) rfl)) ?_
      obtain ⟨ha576,h⟩:=h
      obtain ⟨ha577,h⟩:=h
      obtain ⟨x575,hx575,h⟩:=h
      refine o_call cf_buffer_Note rfl (buffer_Note_c x152 (kBuf_mk (d:=x152) (H171.up ((G262.trans (Fr.ext F280)).trans (Fr.ext F397)) (fun _ h=>h) (upc (.inr m556) (upc (.inr m379) (upc (.inr m239) (upc (.inr m182) (upc (.inl (List.Mem.head _)) (upc (.inl (List.Mem.tail _ (List.Mem.head _))) (upc (.inl (List.Mem.tail _ (List.Mem.tail _ (List.Mem.head _)))) (fun m hm=>Or.inl (List.Mem.tail _ (List.Mem.tail _ (List.Mem.tail _ hm))))))))))))) d1 (kArena_mk (d:=d1) (H6.up ((G256.trans (Fr.ext F280)).trans (Fr.ext F397)) (fun _ h=>h) (upc (.inr m550) (upc (.inr m373) (upc (.inr m233) (upc (.inr m176) (upc (.inr m126) (upc (.inr m86) (upc (.inr m54) (fun _ h=>.inl h))))))))) (H9.up ((G256.trans (Fr.ext F280)).trans (Fr.ext F397)) (fun _ h=>h) (upc (.inr m550) (upc (.inr m373) (upc (.inr m233) (upc (.inr m176) (upc (.inr m126) (upc (.inr m86) (upc (.inr m54) (fun _ h=>.inl h)))))))))) (IntKind.i64.wrap ((Int.tmod (IntKind.i64.wrap d2) (8:Int)) + (1:Int))) (nth d1.slots (Int.tmod (IntKind.i64.wrap d4) (d1.slots.length:Int))) (kEnt_mk (d:=(nth d1.slots (Int.tmod (IntKind.i64.wrap d4) (d1.slots.length:Int)))) (H289.up (G391.trans (Fr.ext F397)) (fun _ h=>h) (upc (.inr m558) (upc (.inr m381) (upc (.inl (List.Mem.head _)) (upc (.inl (List.Mem.tail _ (List.Mem.head _))) (upc (.inl (List.Mem.tail _ (List.Mem.tail _ (List.Mem.head _)))) (upc (.inl (List.Mem.tail _ (List.Mem.tail _ (List.Mem.tail _ (List.Mem.head _))))) (upc (.inl (List.Mem.tail _ (List.Mem.tail _ (List.Mem.tail _ (List.Mem.tail _ (List.Mem.head _)))))) (fun m hm=>Or.inl (List.Mem.tail _ (List.Mem.tail _ (List.Mem.tail _ (List.Mem.tail _ (List.Mem.tail _ hm)))))))))))))) (H292.up (G391.trans (Fr.ext F397)) (fun _ h=>h) (upc (.inr m558) (upc (.inr m381) (upc (.inl (List.Mem.head _)) (upc (.inl (List.Mem.tail _ (List.Mem.head _))) (upc (.inl (List.Mem.tail _ (List.Mem.tail _ (List.Mem.head _)))) (upc (.inl (List.Mem.tail _ (List.Mem.tail _ (List.Mem.tail _ (List.Mem.head _))))) (upc (.inl (List.Mem.tail _ (List.Mem.tail _ (List.Mem.tail _ (List.Mem.tail _ (List.Mem.head _)))))) (fun m hm=>Or.inl (List.Mem.tail _ (List.Mem.tail _ (List.Mem.tail _ (List.Mem.tail _ (List.Mem.tail _ hm))))))))))))))) ((((((((hL.fr E559).cons ((B264.ex F280).ex F397).lt).cons ((B265.ex F280).ex F397).lt).cons ((B266.ex F280).ex F397).lt).cons ((B267.ex F280).ex F397).lt).cons ((B254'.ex F280).ex F397).lt).cons (hB280_b280_10.ex F397).lt).cons hB397_b397_9.lt) (eq_ev hx575 (bufNote_ev x152 d1 (IntKind.i64.wrap ((Int.tmod (IntKind.i64.wrap d2) (8:Int)) + (1:Int))) (nth d1.slots (Int.tmod (IntKind.i64.wrap d4) (d1.slots.length:Int))) ha576 ha577))) rfl rfl ?_
      rintro _ w575 ⟨F575,cs578,rfl,H579⟩
      have E580:=E559.trans F575
      have G587:=((G262.trans (Fr.ext F280)).trans (Fr.ext F397)).trans (Fr.ext F575)
      have G588:=((G263.trans (Fr.ext F280)).trans (Fr.ext F397)).trans (Fr.ext F575)
      obtain ⟨A598,c599,rfl,H600⟩:=kBuf_open H579
      refine o_alloc zero_buffer_Buffer rfl rfl rfl ?_
      intro b601 w601 e601 F601 B601
      have n601:w.heap.size≤b601:=by rw [e601]; exact E580.size
      have q602:b53<b601:=by rw [e601]; exact (((B264.ex F280).ex F397).ex F575).lt
      have q603:b84<b601:=by rw [e601]; exact (((B265.ex F280).ex F397).ex F575).lt
      have q604:b123<b601:=by rw [e601]; exact (((B266.ex F280).ex F397).ex F575).lt
      have q605:b172<b601:=by rw [e601]; exact (((B267.ex F280).ex F397).ex F575).lt
      have q606:b228<b601:=by rw [e601]; exact (((B254'.ex F280).ex F397).ex F575).lt
      have q607:b280_10<b601:=by rw [e601]; exact ((hB280_b280_10.ex F397).ex F575).lt
      have q608:b397_9<b601:=by rw [e601]; exact (hB397_b397_9.ex F575).lt
      have m615:w152.heap.size≤b601:=by rw [e601]; exact G587.size
      have m616:w206.heap.size≤b601:=by rw [e601]; exact G588.size
      have m618:w397.heap.size≤b601:=by rw [e601]; exact (Z397.trans (Fr.ext F575)).size
      have m619:w575.heap.size≤b601:=Nat.le_of_eq e601.symm
      have E620:=E580.trans F601
      have G631:Fr (b397_9::(b280_10::(b228::(b172::(b123::(b84::(b53::L))))))) w575 w601:=Fr.ext F601
      refine o_store rfl B601 (vs:=(cBuf x575 A598 c599)) rfl sz_buffer_Buffer rfl rfl rfl ?_
      intro w639 F639 B639
      have E640:=Ext.st E620 F639 (by simp; omega)
      have G647:Fr (b123::(b84::(b53::L))) w152 w639:=(G587.trans (Fr.ext F601)).stp F639 (upc (.inr m615) (fun m hm=>by cases hm))
      have G648:Fr (b172::(b123::(b84::(b53::L)))) w206 w639:=(G588.trans (Fr.ext F601)).stp F639 (upc (.inr m616) (fun m hm=>by cases hm))
      have G650:Fr (b397_9::(b280_10::(b228::(b172::(b123::(b84::(b53::L))))))) w397 w639:=((Z397.trans (Fr.ext F575)).trans (Fr.ext F601)).stp F639 (upc (.inr m618) (fun m hm=>by cases hm))
      have G651:Fr (b397_9::(b280_10::(b228::(b172::(b123::(b84::(b53::L))))))) w575 w639:=G631.stp F639 (upc (.inr m619) (fun m hm=>by cases hm))
      have B652:=((((B264.ex F280).ex F397).ex F575).ex F601).fr F639 (by simp; omega)
      have B653:=((((B265.ex F280).ex F397).ex F575).ex F601).fr F639 (by simp; omega)
      have B654:=((((B266.ex F280).ex F397).ex F575).ex F601).fr F639 (by simp; omega)
      have B655:=((((B267.ex F280).ex F397).ex F575).ex F601).fr F639 (by simp; omega)
      have B656:=((((B254'.ex F280).ex F397).ex F575).ex F601).fr F639 (by simp; omega)
      have B657:=(((hB280_b280_10.ex F397).ex F575).ex F601).fr F639 (by simp; omega)
      have B658:=((hB397_b397_9.ex F575).ex F601).fr F639 (by simp; omega)
      have B639':Blk w639 b601 _ (cBuf x575 A598 c599):=B639
      refine eo_nil_sq ?_
      refine ec_seq ?_
      refine ec_region ?_
      iterate 2 refine o_w (v:=.bool (worksV)) (r_mov rfl) ?_
      refine o_v (v:=.agg (cBuf x152 A169 c170).toArray) (r_lda agg_buffer_Buffer rfl (vs:=(cBuf x152 A169 c170)) rfl (B655.part (n:=3) rfl)) (want_t (t:=120) rfl rfl (of_not hc21)) rfl rfl ?_
      refine o_v (v:=.agg (cBuf x206 A225 c226).toArray) (r_lda agg_buffer_Buffer rfl (vs:=(cBuf x206 A225 c226)) rfl (B656.part (n:=3) rfl)) (want_t (t:=120) rfl rfl (of_not hc21)) rfl rfl ?_
      obtain ⟨ha661,h⟩:=h
      refine o_call cf_buffer_Same rfl (buffer_Same_c x152 (kBuf_mk (d:=x152) (H171.up G647 (fun _ h=>h) (upc (.inr m615) (upc (.inr m556) (upc (.inr m379) (upc (.inr m239) (upc (.inr m182) (upc (.inl (List.Mem.head _)) (upc (.inl (List.Mem.tail _ (List.Mem.head _))) (upc (.inl (List.Mem.tail _ (List.Mem.tail _ (List.Mem.head _)))) (fun m hm=>Or.inl (List.Mem.tail _ (List.Mem.tail _ (List.Mem.tail _ hm)))))))))))))) x206 (kBuf_mk (d:=x206) (H227.up G648 (fun _ h=>h) (upc (.inr m616) (upc (.inr m557) (upc (.inr m380) (upc (.inr m240) (upc (.inl (List.Mem.head _)) (upc (.inl (List.Mem.tail _ (List.Mem.head _))) (upc (.inl (List.Mem.tail _ (List.Mem.tail _ (List.Mem.head _)))) (upc (.inl (List.Mem.tail _ (List.Mem.tail _ (List.Mem.tail _ (List.Mem.head _))))) (fun m hm=>Or.inl (List.Mem.tail _ (List.Mem.tail _ (List.Mem.tail _ (List.Mem.tail _ hm))))))))))))))) (((((((((hL.fr E640).cons B652.lt).cons B653.lt).cons B654.lt).cons B655.lt).cons B656.lt).cons B657.lt).cons B658.lt).cons B639'.lt) (bufSame_ev x152 x206 ha661)) (want_t (t:=120) rfl rfl (of_not hc21)) rfl ?_
      rintro _ w660 ⟨F660,rfl⟩
      have E662:=E640.trans F660
      refine o_w (v:=.bool (sameB x152 x206)) (r_pickT rfl (of_not hc21) rfl) ?_
      refine o_w (v:=.bool (sameB x152 x206)) (r_mov rfl) ?_
      refine o_vg (v:=.agg (cBuf x404 A409 c410).toArray) (want_ct (t:=125) rfl rfl) (fun hk=>(r_lda agg_buffer_Buffer rfl (vs:=(cBuf x404 A409 c410)) rfl ((B658.ex F660).part (n:=3) rfl))) rfl rfl ?_
      refine o_vg (v:=.agg (cBuf x575 A598 c599).toArray) (want_ct (t:=125) rfl rfl) (fun hk=>(r_lda agg_buffer_Buffer rfl (vs:=(cBuf x575 A598 c599)) rfl ((B639'.ex F660).part (n:=3) rfl))) rfl rfl ?_
      obtain ⟨ha683,h⟩:=h
      refine o_callg (V:=.bool (sameB x404 x575)) cf_buffer_Same (want_ct (t:=125) rfl rfl) (fun hk=>(mapv2 (gdT hk) (gdT hk))) (fun hk=>(buffer_Same_c x404 (kBuf_mk (d:=x404) (H411.up (G650.trans (Fr.ext F660)) (fun _ h=>h) (upc (.inr m618) (upc (.inl (List.Mem.head _)) (upc (.inl (List.Mem.tail _ (List.Mem.head _))) (upc (.inl (List.Mem.tail _ (List.Mem.tail _ (List.Mem.head _)))) (upc (.inl (List.Mem.tail _ (List.Mem.tail _ (List.Mem.tail _ (List.Mem.head _))))) (upc (.inl (List.Mem.tail _ (List.Mem.tail _ (List.Mem.tail _ (List.Mem.tail _ (List.Mem.head _)))))) (upc (.inl (List.Mem.tail _ (List.Mem.tail _ (List.Mem.tail _ (List.Mem.tail _ (List.Mem.tail _ (List.Mem.head _))))))) (upc (.inl (List.Mem.tail _ (List.Mem.tail _ (List.Mem.tail _ (List.Mem.tail _ (List.Mem.tail _ (List.Mem.tail _ (List.Mem.head _)))))))) (fun m hm=>Or.inl (List.Mem.tail _ (List.Mem.tail _ (List.Mem.tail _ (List.Mem.tail _ (List.Mem.tail _ (List.Mem.tail _ (List.Mem.tail _ hm)))))))))))))))))) x575 (kBuf_mk (d:=x575) (H600.up (G651.trans (Fr.ext F660)) (fun _ h=>h) (upc (.inr m619) (upc (.inl (List.Mem.head _)) (upc (.inl (List.Mem.tail _ (List.Mem.head _))) (upc (.inl (List.Mem.tail _ (List.Mem.tail _ (List.Mem.head _)))) (upc (.inl (List.Mem.tail _ (List.Mem.tail _ (List.Mem.tail _ (List.Mem.head _))))) (upc (.inl (List.Mem.tail _ (List.Mem.tail _ (List.Mem.tail _ (List.Mem.tail _ (List.Mem.head _)))))) (upc (.inl (List.Mem.tail _ (List.Mem.tail _ (List.Mem.tail _ (List.Mem.tail _ (List.Mem.tail _ (List.Mem.head _))))))) (upc (.inl (List.Mem.tail _ (List.Mem.tail _ (List.Mem.tail _ (List.Mem.tail _ (List.Mem.tail _ (List.Mem.tail _ (List.Mem.head _)))))))) (fun m hm=>Or.inl (List.Mem.tail _ (List.Mem.tail _ (List.Mem.tail _ (List.Mem.tail _ (List.Mem.tail _ (List.Mem.tail _ (List.Mem.tail _ hm)))))))))))))))))) (((((((((hL.fr E662).cons (B652.ex F660).lt).cons (B653.ex F660).lt).cons (B654.ex F660).lt).cons (B655.ex F660).lt).cons (B656.ex F660).lt).cons (B657.ex F660).lt).cons (B658.ex F660).lt).cons (B639'.ex F660).lt) (bufSame_ev x404 x575 (ha683 hk)))) rfl ?_
      intro w682 F682
      have E684:=E662.trans F682
      refine o_w (v:=.bool ((sameB x152 x206)&&(sameB x404 x575))) (r_pickAnd rfl (fun ht=>(gdT ht)) rfl) ?_
      refine o_w (v:=.bool ((sameB x152 x206)&&(sameB x404 x575))) (r_mov rfl) ?_
      refine o_vg (v:=.pointer (some ⟨b172,1,none⟩)) (want_ct (t:=130) rfl rfl) (fun hk=>(r_fa fld_buffer_Buffer_1 rfl rfl)) rfl rfl ?_
      refine o_vg (v:=.int .i64 x152.first) (want_ct (t:=130) rfl rfl) (fun hk=>(r_ld one_int (gdT hk) (((B655.ex F660).ex F682).cell rfl))) rfl rfl ?_
      refine o_vg (v:=.pointer (some ⟨b53,1,none⟩)) (want_ct (t:=130) rfl rfl) (fun hk=>(r_fa fld_buffer_Buffer_1 rfl rfl)) rfl rfl ?_
      refine o_vg (v:=.int .i64 x41.first) (want_ct (t:=130) rfl rfl) (fun hk=>(r_ld one_int (gdT hk) (((B652.ex F660).ex F682).cell rfl))) rfl rfl ?_
      refine o_vg (v:=.pointer (some ⟨b84,7,none⟩)) (want_ct (t:=130) rfl rfl) (fun hk=>(r_fa fld_frame_Frame_4 rfl rfl)) rfl rfl ?_
      refine o_vg (v:=.slice A81 x69.1.entries.length c82) (want_ct (t:=130) rfl rfl) (fun hk=>(r_ld one_s_api_Entry (gdT hk) (((B653.ex F660).ex F682).cell rfl))) rfl rfl ?_
      refine o_vg (v:=.int .i64 (x69.1.entries.length:Int)) (want_ct (t:=130) rfl rfl) (fun hk=>(r_len_slc un_s_api_Entry (gdT hk))) rfl rfl ?_
      refine o_vg (v:=.int .i64 (IntKind.i64.wrap (x41.first + (x69.1.entries.length:Int)))) (want_ct (t:=130) rfl rfl) (fun hk=>(r_int (gdT hk) (gdT hk) rfl)) rfl rfl ?_
      refine o_vg (v:=.bool (x152.first==(IntKind.i64.wrap (x41.first + (x69.1.entries.length:Int))))) (want_ct (t:=130) rfl rfl) (fun hk=>(r_int (gdT hk) (gdT hk) rfl)) rfl rfl ?_
      refine o_w (v:=.bool (((sameB x152 x206)&&(sameB x404 x575))&&(x152.first==(IntKind.i64.wrap (x41.first + (x69.1.entries.length:Int)))))) (r_pickAnd rfl (fun ht=>(gdT ht)) rfl) ?_
      refine o_w (v:=.bool (((sameB x152 x206)&&(sameB x404 x575))&&(x152.first==(IntKind.i64.wrap (x41.first + (x69.1.entries.length:Int)))))) (r_asg rfl) ?_
      refine eo_nil_sq ?_
      refine ec_ret ?_
      subst h
      exact (end1 rfl ⟨_,rfl,E684,rfl⟩)
end Go.Proofs.Ythfkbabgkacfnaa
