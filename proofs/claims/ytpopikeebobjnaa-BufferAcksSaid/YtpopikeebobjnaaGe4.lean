/- The law BufferAcks: what it comes to. -/
import Derived.Test.YtpopikeebobjnaaFx
namespace Go.Proofs.Ytpopikeebobjnaa
open Go Go.RowKit
set_option linter.unusedVariables false
set_option linter.unusedSimpArgs false
def law16_BufferAcks_b177 (d4:Int) (x41:Buf) (x69:Buf) (s177:Int) (z177:(Int) ⊕ ((Int) ⊕ (Bool))):Prop :=
 ((decide (s177<(x69.names.length:Int)))=true→((0≤s177∧s177<(x69.names.length:Int))∧((0≤(IntKind.i64.wrap (s177 + (IntKind.i64.wrap (d4 - x41.first))))∧(IntKind.i64.wrap (s177 + (IntKind.i64.wrap (d4 - x41.first))))<(x41.names.length:Int))∧(((!((((nth x69.names s177).kind)==((nth x41.names (IntKind.i64.wrap (s177 + (IntKind.i64.wrap (d4 - x41.first))))).kind))&&((((nth x69.names s177).key)==((nth x41.names (IntKind.i64.wrap (s177 + (IntKind.i64.wrap (d4 - x41.first))))).key))&&true)))=true→(z177=.inr (.inr false)))∧((!((((nth x69.names s177).kind)==((nth x41.names (IntKind.i64.wrap (s177 + (IntKind.i64.wrap (d4 - x41.first))))).kind))&&((((nth x69.names s177).key)==((nth x41.names (IntKind.i64.wrap (s177 + (IntKind.i64.wrap (d4 - x41.first))))).key))&&true)))=false→(z177=.inl (IntKind.i64.wrap (s177 + (1:Int)))))))))∧((decide (s177<(x69.names.length:Int)))=false→(z177=.inr (.inl s177)))
def law16_BufferAcks_raw (d0:Buf) (d1:Arena) (d2:Int) (d3:Int) (d4:Int) (y:Bool):Prop :=
 ((!(worksV))=true→(y=false))∧((!(worksV))=false→(((!(!((fewB d0)&&(fewA d1))))=true→sma d1)∧((((!((fewB d0)&&(fewA d1)))||((checkA d1) != (0:Int)))=true→(y=(worksV)))∧(((!((fewB d0)&&(fewA d1)))||((checkA d1) != (0:Int)))=false→((smB d0)∧((sma d1)∧(∃ x41,x41=(mendB d0 d1 (IntKind.i64.wrap ((Int.tmod (IntKind.i64.wrap d2) (8:Int)) + (1:Int))))∧((smB d0)∧((sma d1)∧(∃ x69,x69=(ackB d0 d1 (IntKind.i64.wrap ((Int.tmod (IntKind.i64.wrap d2) (8:Int)) + (1:Int))) d3 d4)∧((smB x69)∧((sma d1)∧(∃ x105,x105=(ackB x69 d1 (IntKind.i64.wrap ((Int.tmod (IntKind.i64.wrap d2) (8:Int)) + (1:Int))) d3 d4)∧((smB x69)∧((((!(!(sameB x69 x105)))&&(!(((d3==x41.epoch)&&(decide (x41.first<d4)))&&(decide (d4≤(IntKind.i64.wrap (x41.first + (x41.names.length:Int))))))))=true→smB x69)∧((((!(sameB x69 x105))||((!(((d3==x41.epoch)&&(decide (x41.first<d4)))&&(decide (d4≤(IntKind.i64.wrap (x41.first + (x41.names.length:Int)))))))&&(!(sameB x69 x41))))=true→(y=false))∧(((!(sameB x69 x105))||((!(((d3==x41.epoch)&&(decide (x41.first<d4)))&&(decide (d4≤(IntKind.i64.wrap (x41.first + (x41.names.length:Int)))))))&&(!(sameB x69 x41))))=false→(((!(((d3==x41.epoch)&&(decide (x41.first<d4)))&&(decide (d4≤(IntKind.i64.wrap (x41.first + (x41.names.length:Int)))))))=true→(y=(worksV)))∧((!(((d3==x41.epoch)&&(decide (x41.first<d4)))&&(decide (d4≤(IntKind.i64.wrap (x41.first + (x41.names.length:Int)))))))=false→((((((x69.names.length:Int) != (IntKind.i64.wrap ((x41.names.length:Int) - (IntKind.i64.wrap (d4 - x41.first)))))||(x69.first != d4))||(x69.epoch != x41.epoch))=true→(y=false))∧(((((x69.names.length:Int) != (IntKind.i64.wrap ((x41.names.length:Int) - (IntKind.i64.wrap (d4 - x41.first)))))||(x69.first != d4))||(x69.epoch != x41.epoch))=false→(∃ x177,LoopR (law16_BufferAcks_b177 d4 x41 x69) (0:Int) x177∧(∀ sx177,x177=.inl sx177→(y=(worksV)))∧(∀ y177,x177=.inr y177→(y=y177))))))))))))))))))))))))
set_option maxRecDepth 20000 in
set_option maxHeartbeats 4000000 in
theorem law16_BufferAcks_c {L:List Nat} {w:World} {csP0:List Value} (d0:Buf) (HP0:Stb L w (fun w=>kBuf.r w csP0 d0)) {csP1:List Value} (d1:Arena) (HP1:Stb L w (fun w=>kArena.r w csP1 d1)) (d2:Int) (d3:Int) (d4:Int) (hL:Lt L w) {y:Bool} (h:law16_BufferAcks_raw d0 d1 d2 d3 d4 y) :
  Calls Try.prog 6 [.agg csP0.toArray,.agg csP1.toArray,.int .u8 d2,.int .i64 d3,.int .i64 d4].toArray w (Ret fun v w'=>Ext w w'∧v=.bool y):=by
 obtain ⟨A1,c2,rfl,H3⟩:=kBuf_open HP0
 obtain ⟨A4,c5,A7,c8,rfl,H6,H9⟩:=kArena_open HP1
 unfold law16_BufferAcks_raw at h
 refine calls_ec Try.func6 rfl rfl rfl ?_
 refine ec_seq ?_
 refine ec_region ?_
 refine o_box (cs:=(cBuf d0 A1 c2)) rfl rfl rfl ?_
 intro b10 w10 e10 F10 B10
 have S10:=B10.stb (nin hL e10)
 have G11:Fr L w w10:=Fr.ext F10
 refine o_box (cs:=(cArena d1 A4 c5 A7 c8)) rfl rfl rfl ?_
 intro b12 w12 e12 F12 B12
 have S12:=B12.stb (nin (hL.fr F10) e12)
 have E13:=F10.trans F12
 have G15:Fr L w10 w12:=Fr.ext F12
 refine o_w (v:=.bool false) (r_asg rfl) ?_
 refine eo_nil_sq ?_
 refine ec_seq ?_
 refine ec_region ?_
 refine o_call cf_law16_works rfl (law16_works_c (hL.fr E13) (works16_ev)) rfl rfl ?_
 rintro _ w16 ⟨F16,rfl⟩
 have E17:=E13.trans F16
 have G20:Fr L w12 w16:=Fr.ext F16
 refine o_w (v:=.bool (worksV)) (r_asg rfl) ?_
 refine eo_nil_sq ?_
 iterate 2 refine ec_seq ?_
 refine ec_region ?_
 refine o_w (v:=.bool (worksV)) (r_mov rfl) ?_
 refine o_w (v:=.bool (!(worksV))) (r_not rfl) ?_
 refine eo_nil_sq ?_
 refine ec_cond rfl (fun hc21=>?_) (fun hc21=>?_)
 ·replace h:=h.1 hc21
  refine ec_seq ?_
  refine ec_region ?_
  refine o_w (v:=.bool false) (r_asg rfl) ?_
  refine eo_nil_sq ?_
  refine ec_ret ?_
  refine sq_ret ?_
  subst h
  exact (end1 rfl ⟨_,rfl,E17,rfl⟩)
 ·replace h:=h.2 hc21
  refine ec_skip ?_
  refine sq_n ?_
  refine ec_seq ?_
  refine ec_region ?_
  refine o_w (v:=.agg (cBuf d0 A1 c2).toArray) (r_lda agg_buffer_Buffer rfl (vs:=(cBuf d0 A1 c2)) rfl ((S10.fr (G15.trans (Fr.ext F16)) (fun _ h=>h)).now.part (n:=3) rfl)) ?_
  refine o_call cf_law16_Few rfl (law16_Few_c d0 (kBuf_mk (d:=d0) (H3.fr ((G11.trans (Fr.ext F12)).trans (Fr.ext F16)) (fun _ h=>h))) (hL.fr E17) (fewB_ev d0)) rfl rfl ?_
  rintro _ w23 ⟨F23,rfl⟩
  have E24:=E17.trans F23
  refine o_w (v:=.bool (fewB d0)) (r_mov rfl) ?_
  refine o_vg (v:=.agg (cArena d1 A4 c5 A7 c8).toArray) (want_ct (t:=25) rfl rfl) (fun hk=>(r_lda agg_api_Arena rfl (vs:=(cArena d1 A4 c5 A7 c8)) rfl ((S12.fr (G20.trans (Fr.ext F23)) (fun _ h=>h)).now.part (n:=3) rfl))) rfl rfl ?_
  refine o_callg (V:=.bool (fewA d1)) cf_law08_Few (want_ct (t:=25) rfl rfl) (fun hk=>(mapv1 (gdT hk))) (fun hk=>(law08_Few_c d1 (kArena_mk (d:=d1) (H6.fr (((G11.trans (Fr.ext F12)).trans (Fr.ext F16)).trans (Fr.ext F23)) (fun _ h=>h)) (H9.fr (((G11.trans (Fr.ext F12)).trans (Fr.ext F16)).trans (Fr.ext F23)) (fun _ h=>h))) (hL.fr E24) (fewA_ev d1))) rfl ?_
  intro w28 F28
  have E29:=E24.trans F28
  have G30:=(((G11.trans (Fr.ext F12)).trans (Fr.ext F16)).trans (Fr.ext F23)).trans (Fr.ext F28)
  refine o_w (v:=.bool ((fewB d0)&&(fewA d1))) (r_pickAnd rfl (fun ht=>(gdT ht)) rfl) ?_
  refine o_w (v:=.bool ((fewB d0)&&(fewA d1))) (r_asg rfl) ?_
  refine eo_nil_sq ?_
  refine ec_seq ?_
  refine ec_region ?_
  refine o_w (v:=.int .u8 d2) (r_mov rfl) ?_
  refine o_w (v:=.int .i64 (IntKind.i64.wrap d2)) (r_conv un_uint8 un_int rfl) ?_
  refine o_w (v:=.int .i64 (Int.tmod (IntKind.i64.wrap d2) (8:Int))) (r_rem rfl rfl rfl) ?_
  refine o_w (v:=.int .i64 (IntKind.i64.wrap ((Int.tmod (IntKind.i64.wrap d2) (8:Int)) + (1:Int)))) (r_int rfl rfl rfl) ?_
  refine o_w (v:=.int .i64 (IntKind.i64.wrap ((Int.tmod (IntKind.i64.wrap d2) (8:Int)) + (1:Int)))) (r_asg rfl) ?_
  refine eo_nil_sq ?_
  iterate 2 refine ec_seq ?_
  refine ec_region ?_
  refine o_w (v:=.bool ((fewB d0)&&(fewA d1))) (r_mov rfl) ?_
  refine o_w (v:=.bool (!((fewB d0)&&(fewA d1)))) (r_not rfl) ?_
  refine o_w (v:=.bool (!((fewB d0)&&(fewA d1)))) (r_mov rfl) ?_
  refine o_vg (v:=.agg (cArena d1 A4 c5 A7 c8).toArray) (want_cf (t:=35) rfl rfl) (fun hk=>(r_lda agg_api_Arena rfl (vs:=(cArena d1 A4 c5 A7 c8)) rfl ((S12.fr ((G20.trans (Fr.ext F23)).trans (Fr.ext F28)) (fun _ h=>h)).now.part (n:=3) rfl))) rfl rfl ?_
  obtain ⟨ha35,h⟩:=h
  refine o_callg (V:=.int .i64 (checkA d1)) cf_arena_Check (want_cf (t:=35) rfl rfl) (fun hk=>(mapv1 (gdT hk))) (fun hk=>(arena_Check_c d1 (kArena_mk (d:=d1) (H6.fr G30 (fun _ h=>h)) (H9.fr G30 (fun _ h=>h))) (hL.fr E29) (arCheck_ev d1 (ha35 hk)))) rfl ?_
  intro w34 F34
  have E36:=E29.trans F34
  have G38:=(((G15.trans (Fr.ext F16)).trans (Fr.ext F23)).trans (Fr.ext F28)).trans (Fr.ext F34)
  refine o_vg (v:=.bool ((checkA d1) != (0:Int))) (want_cf (t:=35) rfl rfl) (fun hk=>(r_int (gdT hk) rfl rfl)) rfl rfl ?_
  refine o_w (v:=.bool ((!((fewB d0)&&(fewA d1)))||((checkA d1) != (0:Int)))) (r_pickOr rfl rfl (fun hf=>(gdT (notT hf)))) ?_
  refine eo_nil_sq ?_
  refine ec_cond rfl (fun hc40=>?_) (fun hc40=>?_)
  ·replace h:=h.1 hc40
   refine ec_seq ?_
   refine ec_region ?_
   refine o_w (v:=.bool (worksV)) (r_mov rfl) ?_
   refine o_w (v:=.bool (worksV)) (r_asg rfl) ?_
   refine eo_nil_sq ?_
   refine ec_ret ?_
   refine sq_ret ?_
   subst h
   exact (end1 rfl ⟨_,rfl,E36,rfl⟩)
  ·replace h:=h.2 hc40
   refine ec_skip ?_
   refine sq_n ?_
   refine ec_seq ?_
   refine ec_region ?_
   refine o_w (v:=.agg (cBuf d0 A1 c2).toArray) (r_lda agg_buffer_Buffer rfl (vs:=(cBuf d0 A1 c2)) rfl ((S10.fr G38 (fun _ h=>h)).now.part (n:=3) rfl)) ?_
   refine o_w (v:=.agg (cArena d1 A4 c5 A7 c8).toArray) (r_lda agg_api_Arena rfl (vs:=(cArena d1 A4 c5 A7 c8)) rfl ((S12.fr (((G20.trans (Fr.ext F23)).trans (Fr.ext F28)).trans (Fr.ext F34)) (fun _ h=>h)).now.part (n:=3) rfl)) ?_
   refine o_w (v:=.int .i64 (IntKind.i64.wrap ((Int.tmod (IntKind.i64.wrap d2) (8:Int)) + (1:Int)))) (r_mov rfl) ?_
   obtain ⟨ha42,h⟩:=h
   obtain ⟨ha43,h⟩:=h
   obtain ⟨x41,hx41,h⟩:=h
   refine o_call cf_buffer_Mend rfl (buffer_Mend_c d0 (kBuf_mk (d:=d0) (H3.fr (G30.trans (Fr.ext F34)) (fun _ h=>h))) d1 (kArena_mk (d:=d1) (H6.fr (G30.trans (Fr.ext F34)) (fun _ h=>h)) (H9.fr (G30.trans (Fr.ext F34)) (fun _ h=>h))) (IntKind.i64.wrap ((Int.tmod (IntKind.i64.wrap d2) (8:Int)) + (1:Int))) (hL.fr E36) (eq_ev hx41 (bufMend_ev d0 d1 (IntKind.i64.wrap ((Int.tmod (IntKind.i64.wrap d2) (8:Int)) + (1:Int))) ha42 ha43))) rfl rfl ?_
   rintro _ w41 ⟨F41,cs44,rfl,H45⟩
   have E46:=E36.trans F41
   have G49:=(((G20.trans (Fr.ext F23)).trans (Fr.ext F28)).trans (Fr.ext F34)).trans (Fr.ext F41)
   obtain ⟨A50,c51,rfl,H52⟩:=kBuf_open H45
   refine o_alloc zero_buffer_Buffer rfl rfl rfl ?_
   intro b53 w53 e53 F53 B53
   have n53:w.heap.size≤b53:=by rw [e53]; exact E46.size
   have m54:w.heap.size≤b53:=by rw [e53]; exact ((G30.trans (Fr.ext F34)).trans (Fr.ext F41)).size
   have m55:w10.heap.size≤b53:=by rw [e53]; exact (G38.trans (Fr.ext F41)).size
   have m56:w12.heap.size≤b53:=by rw [e53]; exact G49.size
   have m57:w41.heap.size≤b53:=Nat.le_of_eq e53.symm
   have E58:=E46.trans F53
   have G62:Fr L w41 w53:=Fr.ext F53
   refine o_store rfl B53 (vs:=(cBuf x41 A50 c51)) rfl sz_buffer_Buffer rfl rfl rfl ?_
   intro w63 F63 B63
   have E64:=Ext.st E58 F63 (by simp; omega)
   have G65:Fr L w w63:=(((G30.trans (Fr.ext F34)).trans (Fr.ext F41)).trans (Fr.ext F53)).stp F63 (upc (.inr m54) (fun m hm=>by cases hm))
   have G66:Fr L w10 w63:=((G38.trans (Fr.ext F41)).trans (Fr.ext F53)).stp F63 (upc (.inr m55) (fun m hm=>by cases hm))
   have G67:Fr L w12 w63:=(G49.trans (Fr.ext F53)).stp F63 (upc (.inr m56) (fun m hm=>by cases hm))
   have G68:Fr L w41 w63:=G62.stp F63 (upc (.inr m57) (fun m hm=>by cases hm))
   have B63':Blk w63 b53 _ (cBuf x41 A50 c51):=B63
   refine eo_nil_sq ?_
   refine ec_seq ?_
   refine ec_region ?_
   refine o_w (v:=.agg (cBuf d0 A1 c2).toArray) (r_lda agg_buffer_Buffer rfl (vs:=(cBuf d0 A1 c2)) rfl ((S10.fr G66 (fun _ h=>h)).now.part (n:=3) rfl)) ?_
   refine o_w (v:=.agg (cArena d1 A4 c5 A7 c8).toArray) (r_lda agg_api_Arena rfl (vs:=(cArena d1 A4 c5 A7 c8)) rfl ((S12.fr G67 (fun _ h=>h)).now.part (n:=3) rfl)) ?_
   refine o_w (v:=.int .i64 (IntKind.i64.wrap ((Int.tmod (IntKind.i64.wrap d2) (8:Int)) + (1:Int)))) (r_mov rfl) ?_
   refine o_w (v:=.int .i64 d3) (r_mov rfl) ?_
   refine o_w (v:=.int .i64 d4) (r_mov rfl) ?_
   obtain ⟨ha70,h⟩:=h
   obtain ⟨ha71,h⟩:=h
   obtain ⟨x69,hx69,h⟩:=h
   refine o_call cf_buffer_Ack rfl (buffer_Ack_c d0 (kBuf_mk (d:=d0) (H3.up G65 (fun _ h=>h) (upc (.inr m54) (fun _ h=>.inl h)))) d1 (kArena_mk (d:=d1) (H6.up G65 (fun _ h=>h) (upc (.inr m54) (fun _ h=>.inl h))) (H9.up G65 (fun _ h=>h) (upc (.inr m54) (fun _ h=>.inl h)))) (IntKind.i64.wrap ((Int.tmod (IntKind.i64.wrap d2) (8:Int)) + (1:Int))) d3 d4 ((hL.fr E64).cons B63'.lt) (eq_ev hx69 (bufAck_ev d0 d1 (IntKind.i64.wrap ((Int.tmod (IntKind.i64.wrap d2) (8:Int)) + (1:Int))) d3 d4 ha70 ha71))) rfl rfl ?_
   rintro _ w69 ⟨F69,cs72,rfl,H73⟩
   have E74:=E64.trans F69
   obtain ⟨A80,c81,rfl,H82⟩:=kBuf_open H73
   refine o_alloc zero_buffer_Buffer rfl rfl rfl ?_
   intro b83 w83 e83 F83 B83
   have n83:w.heap.size≤b83:=by rw [e83]; exact E74.size
   have q84:b53<b83:=by rw [e83]; exact (B63'.ex F69).lt
   have m85:w.heap.size≤b83:=by rw [e83]; exact (G65.trans (Fr.ext F69)).size
   have m87:w12.heap.size≤b83:=by rw [e83]; exact (G67.trans (Fr.ext F69)).size
   have m88:w41.heap.size≤b83:=by rw [e83]; exact (G68.trans (Fr.ext F69)).size
   have m89:w69.heap.size≤b83:=Nat.le_of_eq e83.symm
   have E90:=E74.trans F83
   have G95:Fr (b53::L) w69 w83:=Fr.ext F83
   refine o_store rfl B83 (vs:=(cBuf x69 A80 c81)) rfl sz_buffer_Buffer rfl rfl rfl ?_
   intro w97 F97 B97
   have E98:=Ext.st E90 F97 (by simp; omega)
   have G99:Fr L w w97:=((G65.trans (Fr.ext F69)).trans (Fr.ext F83)).stp F97 (upc (.inr m85) (fun m hm=>by cases hm))
   have G101:Fr L w12 w97:=((G67.trans (Fr.ext F69)).trans (Fr.ext F83)).stp F97 (upc (.inr m87) (fun m hm=>by cases hm))
   have G102:Fr L w41 w97:=((G68.trans (Fr.ext F69)).trans (Fr.ext F83)).stp F97 (upc (.inr m88) (fun m hm=>by cases hm))
   have G103:Fr (b53::L) w69 w97:=G95.stp F97 (upc (.inr m89) (fun m hm=>by cases hm))
   have B104:=((B63'.ex F69).ex F83).fr F97 (by simp; omega)
   have B97':Blk w97 b83 _ (cBuf x69 A80 c81):=B97
   refine eo_nil_sq ?_
   refine ec_seq ?_
   refine ec_region ?_
   refine o_w (v:=.agg (cBuf x69 A80 c81).toArray) (r_lda agg_buffer_Buffer rfl (vs:=(cBuf x69 A80 c81)) rfl (B97'.part (n:=3) rfl)) ?_
   refine o_w (v:=.agg (cArena d1 A4 c5 A7 c8).toArray) (r_lda agg_api_Arena rfl (vs:=(cArena d1 A4 c5 A7 c8)) rfl ((S12.fr G101 (fun _ h=>h)).now.part (n:=3) rfl)) ?_
   refine o_w (v:=.int .i64 (IntKind.i64.wrap ((Int.tmod (IntKind.i64.wrap d2) (8:Int)) + (1:Int)))) (r_mov rfl) ?_
   refine o_w (v:=.int .i64 d3) (r_mov rfl) ?_
   refine o_w (v:=.int .i64 d4) (r_mov rfl) ?_
   obtain ⟨ha106,h⟩:=h
   obtain ⟨ha107,h⟩:=h
   obtain ⟨x105,hx105,h⟩:=h
   refine o_call cf_buffer_Ack rfl (buffer_Ack_c x69 (kBuf_mk (d:=x69) (H82.up G103 (fun _ h=>h) (upc (.inr m89) (upc (.inl (List.Mem.head _)) (fun m hm=>Or.inl (List.Mem.tail _ hm)))))) d1 (kArena_mk (d:=d1) (H6.up G99 (fun _ h=>h) (upc (.inr m85) (upc (.inr m54) (fun _ h=>.inl h)))) (H9.up G99 (fun _ h=>h) (upc (.inr m85) (upc (.inr m54) (fun _ h=>.inl h))))) (IntKind.i64.wrap ((Int.tmod (IntKind.i64.wrap d2) (8:Int)) + (1:Int))) d3 d4 (((hL.fr E98).cons B104.lt).cons B97'.lt) (eq_ev hx105 (bufAck_ev x69 d1 (IntKind.i64.wrap ((Int.tmod (IntKind.i64.wrap d2) (8:Int)) + (1:Int))) d3 d4 ha106 ha107))) rfl rfl ?_
   rintro _ w105 ⟨F105,cs108,rfl,H109⟩
   have E110:=E98.trans F105
   obtain ⟨A118,c119,rfl,H120⟩:=kBuf_open H109
   refine o_alloc zero_buffer_Buffer rfl rfl rfl ?_
   intro b121 w121 e121 F121 B121
   have n121:w.heap.size≤b121:=by rw [e121]; exact E110.size
   have q122:b53<b121:=by rw [e121]; exact (B104.ex F105).lt
   have q123:b83<b121:=by rw [e121]; exact (B97'.ex F105).lt
   have m127:w41.heap.size≤b121:=by rw [e121]; exact (G102.trans (Fr.ext F105)).size
   have m128:w69.heap.size≤b121:=by rw [e121]; exact (G103.trans (Fr.ext F105)).size
   have m129:w105.heap.size≤b121:=Nat.le_of_eq e121.symm
   have E130:=E110.trans F121
   have G136:Fr (b83::(b53::L)) w105 w121:=Fr.ext F121
   refine o_store rfl B121 (vs:=(cBuf x105 A118 c119)) rfl sz_buffer_Buffer rfl rfl rfl ?_
   intro w139 F139 B139
   have E140:=Ext.st E130 F139 (by simp; omega)
   have G144:Fr L w41 w139:=((G102.trans (Fr.ext F105)).trans (Fr.ext F121)).stp F139 (upc (.inr m127) (fun m hm=>by cases hm))
   have G145:Fr (b53::L) w69 w139:=((G103.trans (Fr.ext F105)).trans (Fr.ext F121)).stp F139 (upc (.inr m128) (fun m hm=>by cases hm))
   have G146:Fr (b83::(b53::L)) w105 w139:=G136.stp F139 (upc (.inr m129) (fun m hm=>by cases hm))
   have B147:=((B104.ex F105).ex F121).fr F139 (by simp; omega)
   have B148:=((B97'.ex F105).ex F121).fr F139 (by simp; omega)
   have B139':Blk w139 b121 _ (cBuf x105 A118 c119):=B139
   refine eo_nil_sq ?_
   refine ec_seq ?_
   refine ec_region ?_
   refine o_w (v:=.int .i64 d3) (r_mov rfl) ?_
   refine o_w (v:=.pointer (some ⟨b53,0,none⟩)) (r_fa fld_buffer_Buffer_0 rfl rfl) ?_
   refine o_w (v:=.int .i64 x41.epoch) (r_ld one_int rfl (B147.cell rfl)) ?_
   refine o_w (v:=.bool (d3==x41.epoch)) (r_int rfl rfl rfl) ?_
   refine o_w (v:=.bool (d3==x41.epoch)) (r_mov rfl) ?_
   refine o_vg (v:=.int .i64 d4) (want_ct (t:=61) rfl rfl) (fun hk=>(r_mov rfl)) rfl rfl ?_
   refine o_vg (v:=.pointer (some ⟨b53,1,none⟩)) (want_ct (t:=61) rfl rfl) (fun hk=>(r_fa fld_buffer_Buffer_1 rfl rfl)) rfl rfl ?_
   refine o_vg (v:=.int .i64 x41.first) (want_ct (t:=61) rfl rfl) (fun hk=>(r_ld one_int (gdT hk) (B147.cell rfl))) rfl rfl ?_
   refine o_vg (v:=.bool (decide (x41.first<d4))) (want_ct (t:=61) rfl rfl) (fun hk=>(r_int (gdT hk) (gdT hk) rfl)) rfl rfl ?_
   refine o_w (v:=.bool ((d3==x41.epoch)&&(decide (x41.first<d4)))) (r_pickAnd rfl (fun ht=>(gdT ht)) rfl) ?_
   refine o_w (v:=.bool ((d3==x41.epoch)&&(decide (x41.first<d4)))) (r_mov rfl) ?_
   refine o_vg (v:=.int .i64 d4) (want_ct (t:=67) rfl rfl) (fun hk=>(r_mov rfl)) rfl rfl ?_
   refine o_vg (v:=.pointer (some ⟨b53,1,none⟩)) (want_ct (t:=67) rfl rfl) (fun hk=>(r_fa fld_buffer_Buffer_1 rfl rfl)) rfl rfl ?_
   refine o_vg (v:=.int .i64 x41.first) (want_ct (t:=67) rfl rfl) (fun hk=>(r_ld one_int (gdT hk) (B147.cell rfl))) rfl rfl ?_
   refine o_vg (v:=.pointer (some ⟨b53,2,none⟩)) (want_ct (t:=67) rfl rfl) (fun hk=>(r_fa fld_buffer_Buffer_2 rfl rfl)) rfl rfl ?_
   refine o_vg (v:=.slice A50 x41.names.length c51) (want_ct (t:=67) rfl rfl) (fun hk=>(r_ld one_s_buffer_Name (gdT hk) (B147.cell rfl))) rfl rfl ?_
   refine o_vg (v:=.int .i64 (x41.names.length:Int)) (want_ct (t:=67) rfl rfl) (fun hk=>(r_len_slc un_s_buffer_Name (gdT hk))) rfl rfl ?_
   refine o_vg (v:=.int .i64 (IntKind.i64.wrap (x41.first + (x41.names.length:Int)))) (want_ct (t:=67) rfl rfl) (fun hk=>(r_int (gdT hk) (gdT hk) rfl)) rfl rfl ?_
   refine o_vg (v:=.bool (decide (d4≤(IntKind.i64.wrap (x41.first + (x41.names.length:Int)))))) (want_ct (t:=67) rfl rfl) (fun hk=>(r_int (gdT hk) (gdT hk) rfl)) rfl rfl ?_
   refine o_w (v:=.bool (((d3==x41.epoch)&&(decide (x41.first<d4)))&&(decide (d4≤(IntKind.i64.wrap (x41.first + (x41.names.length:Int))))))) (r_pickAnd rfl (fun ht=>(gdT ht)) rfl) ?_
   refine o_w (v:=.bool (((d3==x41.epoch)&&(decide (x41.first<d4)))&&(decide (d4≤(IntKind.i64.wrap (x41.first + (x41.names.length:Int))))))) (r_asg rfl) ?_
   refine eo_nil_sq ?_
   iterate 2 refine ec_seq ?_
   refine ec_region ?_
   refine o_w (v:=.agg (cBuf x69 A80 c81).toArray) (r_lda agg_buffer_Buffer rfl (vs:=(cBuf x69 A80 c81)) rfl (B148.part (n:=3) rfl)) ?_
   refine o_w (v:=.agg (cBuf x105 A118 c119).toArray) (r_lda agg_buffer_Buffer rfl (vs:=(cBuf x105 A118 c119)) rfl (B139'.part (n:=3) rfl)) ?_
   obtain ⟨ha151,h⟩:=h
   refine o_call cf_buffer_Same rfl (buffer_Same_c x69 (kBuf_mk (d:=x69) (H82.up G145 (fun _ h=>h) (upc (.inr m128) (upc (.inr m89) (upc (.inl (List.Mem.head _)) (fun m hm=>Or.inl (List.Mem.tail _ hm))))))) x105 (kBuf_mk (d:=x105) (H120.up G146 (fun _ h=>h) (upc (.inr m129) (upc (.inl (List.Mem.head _)) (upc (.inl (List.Mem.tail _ (List.Mem.head _))) (fun m hm=>Or.inl (List.Mem.tail _ (List.Mem.tail _ hm)))))))) ((((hL.fr E140).cons B147.lt).cons B148.lt).cons B139'.lt) (bufSame_ev x69 x105 ha151)) rfl rfl ?_
   rintro _ w150 ⟨F150,rfl⟩
   have E152:=E140.trans F150
   refine o_w (v:=.bool (!(sameB x69 x105))) (r_not rfl) ?_
   refine o_w (v:=.bool (!(sameB x69 x105))) (r_mov rfl) ?_
   refine o_vg (v:=.bool (((d3==x41.epoch)&&(decide (x41.first<d4)))&&(decide (d4≤(IntKind.i64.wrap (x41.first + (x41.names.length:Int))))))) (want_cf (t:=81) rfl rfl) (fun hk=>(r_mov rfl)) rfl rfl ?_
   refine o_vg (v:=.bool (!(((d3==x41.epoch)&&(decide (x41.first<d4)))&&(decide (d4≤(IntKind.i64.wrap (x41.first + (x41.names.length:Int)))))))) (want_cf (t:=81) rfl rfl) (fun hk=>(r_not (gdT hk))) rfl rfl ?_
   refine o_vg (v:=.bool (!(((d3==x41.epoch)&&(decide (x41.first<d4)))&&(decide (d4≤(IntKind.i64.wrap (x41.first + (x41.names.length:Int)))))))) (want_cf (t:=81) rfl rfl) (fun hk=>(r_mov (gdT hk))) rfl rfl ?_
   refine o_vg (v:=.agg (cBuf x69 A80 c81).toArray) (want_gt (t:=84) rfl rfl) (fun hk=>(r_lda agg_buffer_Buffer rfl (vs:=(cBuf x69 A80 c81)) rfl ((B148.ex F150).part (n:=3) rfl))) rfl rfl ?_
   refine o_vg (v:=.agg (cBuf x41 A50 c51).toArray) (want_gt (t:=84) rfl rfl) (fun hk=>(r_lda agg_buffer_Buffer rfl (vs:=(cBuf x41 A50 c51)) rfl ((B147.ex F150).part (n:=3) rfl))) rfl rfl ?_
   obtain ⟨ha163,h⟩:=h
   refine o_callg (V:=.bool (sameB x69 x41)) cf_buffer_Same (want_gt (t:=84) rfl rfl) (fun hk=>(mapv2 (gdT hk) (gdT hk))) (fun hk=>(buffer_Same_c x69 (kBuf_mk (d:=x69) (H82.up (G145.trans (Fr.ext F150)) (fun _ h=>h) (upc (.inr m128) (upc (.inr m89) (upc (.inl (List.Mem.head _)) (fun m hm=>Or.inl (List.Mem.tail _ hm))))))) x41 (kBuf_mk (d:=x41) (H52.up (G144.trans (Fr.ext F150)) (fun _ h=>h) (upc (.inr m127) (upc (.inr m88) (upc (.inr m57) (fun _ h=>.inl h)))))) ((((hL.fr E152).cons (B147.ex F150).lt).cons (B148.ex F150).lt).cons (B139'.ex F150).lt) (bufSame_ev x69 x41 (ha163 hk)))) rfl ?_
   intro w162 F162
   have E164:=E152.trans F162
   refine o_vg (v:=.bool (!(sameB x69 x41))) (want_gt (t:=84) rfl rfl) (fun hk=>(r_not (gdT hk))) rfl rfl ?_
   refine o_vg (v:=.bool ((!(((d3==x41.epoch)&&(decide (x41.first<d4)))&&(decide (d4≤(IntKind.i64.wrap (x41.first + (x41.names.length:Int)))))))&&(!(sameB x69 x41)))) (want_cf (t:=81) rfl rfl) (fun hk=>(r_pickAnd (gdT hk) (fun ht=>(gdT (andM hk ht))) rfl)) rfl rfl ?_
   refine o_w (v:=.bool ((!(sameB x69 x105))||((!(((d3==x41.epoch)&&(decide (x41.first<d4)))&&(decide (d4≤(IntKind.i64.wrap (x41.first + (x41.names.length:Int)))))))&&(!(sameB x69 x41))))) (r_pickOr rfl rfl (fun hf=>(gdT (notT hf)))) ?_
   refine eo_nil_sq ?_
   refine ec_cond rfl (fun hc174=>?_) (fun hc174=>?_)
   ·replace h:=h.1 hc174
    refine ec_seq ?_
    refine ec_region ?_
    refine o_w (v:=.bool false) (r_asg rfl) ?_
    refine eo_nil_sq ?_
    refine ec_ret ?_
    refine sq_ret ?_
    subst h
    exact (end1 rfl ⟨_,rfl,E164,rfl⟩)
   ·replace h:=h.2 hc174
    refine ec_skip ?_
    refine sq_n ?_
    iterate 2 refine ec_seq ?_
    refine ec_region ?_
    refine o_w (v:=.bool (((d3==x41.epoch)&&(decide (x41.first<d4)))&&(decide (d4≤(IntKind.i64.wrap (x41.first + (x41.names.length:Int))))))) (r_mov rfl) ?_
    refine o_w (v:=.bool (!(((d3==x41.epoch)&&(decide (x41.first<d4)))&&(decide (d4≤(IntKind.i64.wrap (x41.first + (x41.names.length:Int)))))))) (r_not rfl) ?_
    refine eo_nil_sq ?_
    refine ec_cond rfl (fun hc175=>?_) (fun hc175=>?_)
    ·replace h:=h.1 hc175
     refine ec_seq ?_
     refine ec_region ?_
     refine o_w (v:=.bool (worksV)) (r_mov rfl) ?_
     refine o_w (v:=.bool (worksV)) (r_asg rfl) ?_
     refine eo_nil_sq ?_
     refine ec_ret ?_
     refine sq_ret ?_
     subst h
     exact (end1 rfl ⟨_,rfl,E164,rfl⟩)
    ·replace h:=h.2 hc175
     refine ec_skip ?_
     refine sq_n ?_
     refine ec_seq ?_
     refine ec_region ?_
     refine o_w (v:=.int .i64 d4) (r_mov rfl) ?_
     refine o_w (v:=.pointer (some ⟨b53,1,none⟩)) (r_fa fld_buffer_Buffer_1 rfl rfl) ?_
     refine o_w (v:=.int .i64 x41.first) (r_ld one_int rfl (((B147.ex F150).ex F162).cell rfl)) ?_
     refine o_w (v:=.int .i64 (IntKind.i64.wrap (d4 - x41.first))) (r_int rfl rfl rfl) ?_
     refine o_w (v:=.int .i64 (IntKind.i64.wrap (d4 - x41.first))) (r_asg rfl) ?_
     refine eo_nil_sq ?_
     iterate 2 refine ec_seq ?_
     refine ec_region ?_
     refine o_w (v:=.pointer (some ⟨b83,2,none⟩)) (r_fa fld_buffer_Buffer_2 rfl rfl) ?_
     refine o_w (v:=.slice A80 x69.names.length c81) (r_ld one_s_buffer_Name rfl (((B148.ex F150).ex F162).cell rfl)) ?_
     refine o_w (v:=.int .i64 (x69.names.length:Int)) (r_len_slc un_s_buffer_Name rfl) ?_
     refine o_w (v:=.pointer (some ⟨b53,2,none⟩)) (r_fa fld_buffer_Buffer_2 rfl rfl) ?_
     refine o_w (v:=.slice A50 x41.names.length c51) (r_ld one_s_buffer_Name rfl (((B147.ex F150).ex F162).cell rfl)) ?_
     refine o_w (v:=.int .i64 (x41.names.length:Int)) (r_len_slc un_s_buffer_Name rfl) ?_
     refine o_w (v:=.int .i64 (IntKind.i64.wrap (d4 - x41.first))) (r_mov rfl) ?_
     refine o_w (v:=.int .i64 (IntKind.i64.wrap ((x41.names.length:Int) - (IntKind.i64.wrap (d4 - x41.first))))) (r_int rfl rfl rfl) ?_
     refine o_w (v:=.bool ((x69.names.length:Int) != (IntKind.i64.wrap ((x41.names.length:Int) - (IntKind.i64.wrap (d4 - x41.first)))))) (r_int rfl rfl rfl) ?_
     refine o_w (v:=.bool ((x69.names.length:Int) != (IntKind.i64.wrap ((x41.names.length:Int) - (IntKind.i64.wrap (d4 - x41.first)))))) (r_mov rfl) ?_
     refine o_vg (v:=.pointer (some ⟨b83,1,none⟩)) (want_cf (t:=107) rfl rfl) (fun hk=>(r_fa fld_buffer_Buffer_1 rfl rfl)) rfl rfl ?_
     refine o_vg (v:=.int .i64 x69.first) (want_cf (t:=107) rfl rfl) (fun hk=>(r_ld one_int (gdT hk) (((B148.ex F150).ex F162).cell rfl))) rfl rfl ?_
     refine o_vg (v:=.int .i64 d4) (want_cf (t:=107) rfl rfl) (fun hk=>(r_mov rfl)) rfl rfl ?_
     refine o_vg (v:=.bool (x69.first != d4)) (want_cf (t:=107) rfl rfl) (fun hk=>(r_int (gdT hk) (gdT hk) rfl)) rfl rfl ?_
     refine o_w (v:=.bool (((x69.names.length:Int) != (IntKind.i64.wrap ((x41.names.length:Int) - (IntKind.i64.wrap (d4 - x41.first)))))||(x69.first != d4))) (r_pickOr rfl rfl (fun hf=>(gdT (notT hf)))) ?_
     refine o_w (v:=.bool (((x69.names.length:Int) != (IntKind.i64.wrap ((x41.names.length:Int) - (IntKind.i64.wrap (d4 - x41.first)))))||(x69.first != d4))) (r_mov rfl) ?_
     refine o_vg (v:=.pointer (some ⟨b83,0,none⟩)) (want_cf (t:=113) rfl rfl) (fun hk=>(r_fa fld_buffer_Buffer_0 rfl rfl)) rfl rfl ?_
     refine o_vg (v:=.int .i64 x69.epoch) (want_cf (t:=113) rfl rfl) (fun hk=>(r_ld one_int (gdT hk) (((B148.ex F150).ex F162).cell rfl))) rfl rfl ?_
     refine o_vg (v:=.pointer (some ⟨b53,0,none⟩)) (want_cf (t:=113) rfl rfl) (fun hk=>(r_fa fld_buffer_Buffer_0 rfl rfl)) rfl rfl ?_
     refine o_vg (v:=.int .i64 x41.epoch) (want_cf (t:=113) rfl rfl) (fun hk=>(r_ld one_int (gdT hk) (((B147.ex F150).ex F162).cell rfl))) rfl rfl ?_
     refine o_vg (v:=.bool (x69.epoch != x41.epoch)) (want_cf (t:=113) rfl rfl) (fun hk=>(r_int (gdT hk) (gdT hk) rfl)) rfl rfl ?_
     refine o_w (v:=.bool ((((x69.names.length:Int) != (IntKind.i64.wrap ((x41.names.length:Int) - (IntKind.i64.wrap (d4 - x41.first)))))||(x69.first != d4))||(x69.epoch != x41.epoch))) (r_pickOr rfl rfl (fun hf=>(gdT (notT hf)))) ?_
     refine eo_nil_sq ?_
     refine ec_cond rfl (fun hc176=>?_) (fun hc176=>?_)
     ·replace h:=h.1 hc176
      refine ec_seq ?_
      refine ec_region ?_
      refine o_w (v:=.bool false) (r_asg rfl) ?_
      refine eo_nil_sq ?_
      refine ec_ret ?_
      refine sq_ret ?_
      subst h
      exact (end1 rfl ⟨_,rfl,E164,rfl⟩)
     ·replace h:=h.2 hc176
      refine ec_skip ?_
      refine sq_n ?_
      iterate 2 refine ec_seq ?_
      refine ec_region ?_
      refine o_w (v:=.int .i64 (0:Int)) (r_asg rfl) ?_
      refine eo_nil_sq ?_
      refine ec_block ?_
      obtain ⟨x177,hl177,h⟩:=h
      refine ec_loopER 0 (I:=(fun (s177:Int) ρ ds w'=>∃ (ρ':Env),ρ=envs ρ' [(19,.int .i64 s177),(11,.bool (worksV)),(14,.pointer (some ⟨b53,0,none⟩)),(15,.pointer (some ⟨b83,0,none⟩)),(18,.int .i64 (IntKind.i64.wrap (d4 - x41.first)))]∧ds=[]∧Fr (b121::(b83::(b53::L))) w162 w'∧Ext w w'∧Blk w' b121 24 (cBuf x105 A118 c119)∧Blk w' b53 24 (cBuf x41 A50 c51)∧Blk w' b83 24 (cBuf x69 A80 c81))) (J:=(fun (y':Bool) ρ ds wz=>bodyE Try.prog #[.tmp 10] (Ret fun v w'=>Ext w w'∧v=.bool y') .ret ρ ds wz)) ?_ hl177 ?_ ?_ ?_
      ·intro s177 z177 ρ177 ds177 w177r hI177 hb177
       obtain ⟨ρ177r,rfl,rfl,F177r,E177r,B177rb121,B177rb53,B177rb83⟩:=hI177
       have h:=hb177
       unfold law16_BufferAcks_b177 at h
       have G181:Fr L w41 w177r:=((G144.trans (Fr.ext F150)).trans (Fr.ext F162)).stp F177r (upc (.inr m127) (upc (.inr m88) (upc (.inr m57) (fun _ h=>.inl h))))
       have G182:Fr (b53::L) w69 w177r:=((G145.trans (Fr.ext F150)).trans (Fr.ext F162)).stp F177r (upc (.inr m128) (upc (.inr m89) (upc (.inl (List.Mem.head _)) (fun m hm=>Or.inl (List.Mem.tail _ hm)))))
       iterate 2 refine ec_seq ?_
       refine ec_region ?_
       refine o_w (v:=.int .i64 s177) (r_mov rfl) ?_
       refine o_w (v:=.pointer (some ⟨b83,2,none⟩)) (r_fa fld_buffer_Buffer_2 rfl rfl) ?_
       refine o_w (v:=.slice A80 x69.names.length c81) (r_ld one_s_buffer_Name rfl (B177rb83.cell rfl)) ?_
       refine o_w (v:=.int .i64 (x69.names.length:Int)) (r_len_slc un_s_buffer_Name rfl) ?_
       refine o_w (v:=.bool (decide (s177<(x69.names.length:Int)))) (r_int rfl rfl rfl) ?_
       refine eo_nil_sq ?_
       refine ec_cond rfl (fun hc184=>?_) (fun hc184=>?_)
       ·replace h:=h.1 hc184
        refine ec_skip ?_
        refine sq_n ?_
        refine ec_seq ?_
        refine ec_block ?_
        refine ec_seq ?_
        obtain ⟨ha196,h⟩:=h
        obtain ⟨cs197,l199,H198⟩:=Stb.elem (by decide) (H82.up G182 (fun _ h=>h) (upc (.inr m128) (upc (.inr m89) (upc (.inl (List.Mem.head _)) (fun m hm=>Or.inl (List.Mem.tail _ hm)))))) s177 ha196.1 ha196.2
        obtain ⟨rfl,H200⟩:=kNm_open2 H198
        obtain ⟨ha201,h⟩:=h
        obtain ⟨cs202,l204,H203⟩:=Stb.elem (by decide) (H52.up G181 (fun _ h=>h) (upc (.inr m127) (upc (.inr m88) (upc (.inr m57) (fun _ h=>.inl h))))) (IntKind.i64.wrap (s177 + (IntKind.i64.wrap (d4 - x41.first)))) ha201.1 ha201.2
        obtain ⟨rfl,H205⟩:=kNm_open2 H203
        refine ec_any0 (by kernel_rfl) [[],[0],[],[0,1,2],[0,1,2,3],[],[5],[],[],[7,8],[5,6,7,8,9],[5,6,7,8,9,10],[0,1,2,3,4,5,6,7,8,9,10,11]] [127,128,129,130,131,132,133,134,135,136,137,138,139] [fun v _=>v=(.pointer (some ⟨b83,2,none⟩):Value),fun v _=>v=(.slice A80 x69.names.length c81:Value),fun v _=>v=(.int .i64 s177:Value),fun v _=>v=(.pointer (some (elemA A80 kNm.n s177.toNat)):Value),fun v _=>v=(.agg (cNm (nth x69.names s177)).toArray:Value),fun v _=>v=(.pointer (some ⟨b53,2,none⟩):Value),fun v _=>v=(.slice A50 x41.names.length c51:Value),fun v _=>v=(.int .i64 s177:Value),fun v _=>v=(.int .i64 (IntKind.i64.wrap (d4 - x41.first)):Value),fun v _=>v=(.int .i64 (IntKind.i64.wrap (s177 + (IntKind.i64.wrap (d4 - x41.first)))):Value),fun v _=>v=(.pointer (some (elemA A50 kNm.n (IntKind.i64.wrap (s177 + (IntKind.i64.wrap (d4 - x41.first)))).toNat)):Value),fun v _=>v=(.agg (cNm (nth x41.names (IntKind.i64.wrap (s177 + (IntKind.i64.wrap (d4 - x41.first)))))).toArray:Value),fun v _=>v=(.bool (!((((nth x69.names s177).kind)==((nth x41.names (IntKind.i64.wrap (s177 + (IntKind.i64.wrap (d4 - x41.first))))).kind))&&((((nth x69.names s177).key)==((nth x41.names (IntKind.i64.wrap (s177 + (IntKind.i64.wrap (d4 - x41.first))))).key))&&true))):Value)] (by kernel_rfl) ⟨fun _ _ _ _ _ h=>h,fun _ _ _ _ _ h=>h,fun _ _ _ _ _ h=>h,fun _ _ _ _ _ h=>h,fun _ _ _ _ _ h=>h,fun _ _ _ _ _ h=>h,fun _ _ _ _ _ h=>h,fun _ _ _ _ _ h=>h,fun _ _ _ _ _ h=>h,fun _ _ _ _ _ h=>h,fun _ _ _ _ _ h=>h,fun _ _ _ _ _ h=>h,fun _ _ _ _ _ h=>h,trivial⟩ ?_ ?_
        ·refine ⟨?_,?_,?_,?_,?_,?_,?_,?_,?_,?_,?_,?_,?_,trivial⟩
         ·intro ρ w195o F195o hS hρ
          have q15:ρ 15=.pointer (some ⟨b83,0,none⟩):=hρ 15 (by kernel_rfl)
          exact o_q (r_fa fld_buffer_Buffer_2 rfl q15) ⟨Fr.refl _ _,rfl⟩
         ·intro ρ w195o F195o hS hρ
          have q127:ρ 127=.pointer (some ⟨b83,2,none⟩):=hS 0 (by decide) 127 rfl
          exact o_q (r_ld one_s_buffer_Name q127 ((B177rb83.ex F195o).cell rfl)) ⟨Fr.refl _ _,rfl⟩
         ·intro ρ w195o F195o hS hρ
          have q19:ρ 19=.int .i64 s177:=hρ 19 (by kernel_rfl)
          exact o_q (r_mov q19) ⟨Fr.refl _ _,rfl⟩
         ·intro ρ w195o F195o hS hρ
          have q128:ρ 128=.slice A80 x69.names.length c81:=hS 1 (by decide) 128 rfl
          have q129:ρ 129=.int .i64 s177:=hS 2 (by decide) 129 rfl
          exact o_q (r_ia slc_s_buffer_Name q128 q129 ((H82.fr (G182.trans (Fr.ext F195o)) (fun _ h=>h)).now.2 _ (lt_toNat ha196.1 ha196.2)).1 ha196.1 ha196.2) ⟨Fr.refl _ _,rfl⟩
         ·intro ρ w195o F195o hS hρ
          have G238:Fr (b121::(b83::(b53::L))) w177r w195o:=Fr.ext F195o
          have q130:ρ 130=.pointer (some (elemA A80 kNm.n s177.toNat)):=hS 3 (by decide) 130 rfl
          exact o_q (r_lda' agg_buffer_Name q130 (elemA_spot _ _ _) (vs:=(cNm (nth x69.names s177))) rfl ((H200.fr G238 (fun _ h=>h)).now.1)) ⟨Fr.refl _ _,rfl⟩
         ·intro ρ w195o F195o hS hρ
          have q14:ρ 14=.pointer (some ⟨b53,0,none⟩):=hρ 14 (by kernel_rfl)
          exact o_q (r_fa fld_buffer_Buffer_2 rfl q14) ⟨Fr.refl _ _,rfl⟩
         ·intro ρ w195o F195o hS hρ
          have q132:ρ 132=.pointer (some ⟨b53,2,none⟩):=hS 5 (by decide) 132 rfl
          exact o_q (r_ld one_s_buffer_Name q132 ((B177rb53.ex F195o).cell rfl)) ⟨Fr.refl _ _,rfl⟩
         ·intro ρ w195o F195o hS hρ
          have q19:ρ 19=.int .i64 s177:=hρ 19 (by kernel_rfl)
          exact o_q (r_mov q19) ⟨Fr.refl _ _,rfl⟩
         ·intro ρ w195o F195o hS hρ
          have q18:ρ 18=.int .i64 (IntKind.i64.wrap (d4 - x41.first)):=hρ 18 (by kernel_rfl)
          exact o_q (r_mov q18) ⟨Fr.refl _ _,rfl⟩
         ·intro ρ w195o F195o hS hρ
          have q134:ρ 134=.int .i64 s177:=hS 7 (by decide) 134 rfl
          have q135:ρ 135=.int .i64 (IntKind.i64.wrap (d4 - x41.first)):=hS 8 (by decide) 135 rfl
          exact o_q (r_int q134 q135 rfl) ⟨Fr.refl _ _,rfl⟩
         ·intro ρ w195o F195o hS hρ
          have q133:ρ 133=.slice A50 x41.names.length c51:=hS 6 (by decide) 133 rfl
          have q136:ρ 136=.int .i64 (IntKind.i64.wrap (s177 + (IntKind.i64.wrap (d4 - x41.first)))):=hS 9 (by decide) 136 rfl
          exact o_q (r_ia slc_s_buffer_Name q133 q136 ((H52.fr (G181.trans (Fr.ext F195o)) (fun _ h=>h)).now.2 _ (lt_toNat ha201.1 ha201.2)).1 ha201.1 ha201.2) ⟨Fr.refl _ _,rfl⟩
         ·intro ρ w195o F195o hS hρ
          have G274:Fr (b121::(b83::(b53::L))) w177r w195o:=Fr.ext F195o
          have q137:ρ 137=.pointer (some (elemA A50 kNm.n (IntKind.i64.wrap (s177 + (IntKind.i64.wrap (d4 - x41.first)))).toNat)):=hS 10 (by decide) 137 rfl
          exact o_q (r_lda' agg_buffer_Name q137 (elemA_spot _ _ _) (vs:=(cNm (nth x41.names (IntKind.i64.wrap (s177 + (IntKind.i64.wrap (d4 - x41.first))))))) rfl ((H205.fr G274 (fun _ h=>h)).now.1)) ⟨Fr.refl _ _,rfl⟩
         ·intro ρ w195o F195o hS hρ
          have q131:ρ 131=.agg (cNm (nth x69.names s177)).toArray:=hS 4 (by decide) 131 rfl
          have q138:ρ 138=.agg (cNm (nth x41.names (IntKind.i64.wrap (s177 + (IntKind.i64.wrap (d4 - x41.first)))))).toArray:=hS 11 (by decide) 138 rfl
          exact o_q (r_neSt eqg_buffer_Name (eqs_buffer_Name ((nth x69.names s177).kind) ((nth x69.names s177).key) ((nth x41.names (IntKind.i64.wrap (s177 + (IntKind.i64.wrap (d4 - x41.first))))).kind) ((nth x41.names (IntKind.i64.wrap (s177 + (IntKind.i64.wrap (d4 - x41.first))))).key)) q131 q138) ⟨Fr.refl _ _,rfl⟩
        ·intro ρ w195 F195 hS hρ
         have q139:ρ 139=.bool (!((((nth x69.names s177).kind)==((nth x41.names (IntKind.i64.wrap (s177 + (IntKind.i64.wrap (d4 - x41.first))))).kind))&&((((nth x69.names s177).key)==((nth x41.names (IntKind.i64.wrap (s177 + (IntKind.i64.wrap (d4 - x41.first))))).key))&&true))):=hS 12 139 rfl
         obtain ⟨ρ',rfl⟩:∃ ρ',ρ=envs (ovr [127,128,129,130,131,132,133,134,135,136,137,138,139] ρ' _) [(139,.bool (!((((nth x69.names s177).kind)==((nth x41.names (IntKind.i64.wrap (s177 + (IntKind.i64.wrap (d4 - x41.first))))).kind))&&((((nth x69.names s177).key)==((nth x41.names (IntKind.i64.wrap (s177 + (IntKind.i64.wrap (d4 - x41.first))))).key))&&true))))]:=⟨ρ,ovr_self hρ ⟨q139,trivial⟩⟩
         have E278:=E177r.trans F195
         refine sq_n ?_
         refine ec_cond rfl (fun hc290=>?_) (fun hc290=>?_)
         ·replace h:=h.1 hc290
          refine ec_seq ?_
          refine ec_region ?_
          refine o_w (v:=.bool false) (r_asg rfl) ?_
          refine eo_nil_sq ?_
          refine ec_ret ?_
          refine blk_ret ?_
          refine sq_ret ?_
          subst h
          exact lqR_r (end1 rfl ⟨_,rfl,E278,rfl⟩)
         ·replace h:=h.2 hc290
          refine ec_skip ?_
          refine blk_n ?_
          refine sq_n ?_
          refine ec_region ?_
          refine o_w (v:=.int .i64 s177) (r_mov rfl) ?_
          refine o_w (v:=.int .i64 (IntKind.i64.wrap (s177 + (1:Int)))) (r_int rfl rfl rfl) ?_
          refine o_w (v:=.int .i64 (IntKind.i64.wrap (s177 + (1:Int)))) (r_asg rfl) ?_
          refine eo_nil ?_
          subst h
          exact lqR_n ⟨_,envs_self ⟨rfl,rfl,rfl,rfl,rfl,trivial⟩,rfl,(F177r.trans (Fr.ext F195)),E278,(B177rb121.ex F195),(B177rb53.ex F195),(B177rb83.ex F195)⟩
       ·replace h:=h.2 hc184
        refine ec_exit ?_
        refine sq_exit ?_
        subst h
        exact lqR_x ⟨_,envs_self ⟨rfl,rfl,rfl,rfl,rfl,trivial⟩,rfl,F177r,E177r,B177rb121,B177rb53,B177rb83⟩
      ·exact ⟨_,envs_self ⟨rfl,rfl,rfl,rfl,rfl,trivial⟩,rfl,(Fr.refl _ _),E164,((B139'.ex F150).ex F162),((B147.ex F150).ex F162),((B148.ex F150).ex F162)⟩
      ·rintro sx177 rfl ρ177e ds177e w177e ⟨ρ177e,rfl,rfl,F177e,E177e,B177eb121,B177eb53,B177eb83⟩
       replace h:=h.1 _ rfl
       refine blk_hit ?_
       refine sq_n ?_
       refine ec_seq ?_
       refine ec_region ?_
       refine o_w (v:=.bool (worksV)) (r_mov rfl) ?_
       refine o_w (v:=.bool (worksV)) (r_asg rfl) ?_
       refine eo_nil_sq ?_
       refine ec_ret ?_
       subst h
       exact (end1 rfl ⟨_,rfl,E177e,rfl⟩)
      ·rintro y177 rfl ρ177q ds177q w177q hJ
       have hy:=h.2 _ rfl
       subst hy
       refine blk_ret ?_
       refine sq_ret ?_
       exact hJ
end Go.Proofs.Ytpopikeebobjnaa
