/- The law BufferMends: what it comes to. -/
import Derived.Test.YtpopikeebobjnaaFx
namespace Go.Proofs.Ytpopikeebobjnaa
open Go Go.RowKit
set_option linter.unusedVariables false
set_option linter.unusedSimpArgs false
def law16_BufferMends_raw (d0:Buf) (d1:Arena) (d2:Int) (d3:Ent) (d4:Int) (d5:Int) (y:Bool):Prop :=
 ((!(worksV))=true→(y=false))∧((!(worksV))=false→(((!(!(((fewB d0)&&(fewA d1))&&(fewE d3))))=true→sma d1)∧((((!(((fewB d0)&&(fewA d1))&&(fewE d3)))||((checkA d1) != (0:Int)))=true→(y=(worksV)))∧(((!(((fewB d0)&&(fewA d1))&&(fewE d3)))||((checkA d1) != (0:Int)))=false→((smB d0)∧((sma d1)∧(∃ x63,x63=(mendB d0 d1 (IntKind.i64.wrap ((Int.tmod (IntKind.i64.wrap d2) (8:Int)) + (1:Int))))∧((smB d0)∧((sma d1)∧(∃ x96,x96=(checkB d0 d1 (IntKind.i64.wrap ((Int.tmod (IntKind.i64.wrap d2) (8:Int)) + (1:Int))))∧(((x96==(0:Int))=true→smB x63)∧((((x96==(0:Int))&&(!(sameB x63 d0)))=true→(y=false))∧(((x96==(0:Int))&&(!(sameB x63 d0)))=false→((((checkB x63 d1 (IntKind.i64.wrap ((Int.tmod (IntKind.i64.wrap d2) (8:Int)) + (1:Int))))==(0:Int))=true→((((checkB (resetB d0) d1 (IntKind.i64.wrap ((Int.tmod (IntKind.i64.wrap d2) (8:Int)) + (1:Int))))==(0:Int))=true→((((checkB (noteB d0 d1 (IntKind.i64.wrap ((Int.tmod (IntKind.i64.wrap d2) (8:Int)) + (1:Int))) d3) d1 (IntKind.i64.wrap ((Int.tmod (IntKind.i64.wrap d2) (8:Int)) + (1:Int))))==(0:Int))=true→((((checkB (ackB d0 d1 (IntKind.i64.wrap ((Int.tmod (IntKind.i64.wrap d2) (8:Int)) + (1:Int))) d4 d5) d1 (IntKind.i64.wrap ((Int.tmod (IntKind.i64.wrap d2) (8:Int)) + (1:Int))))==(0:Int))=true→(smB x63∧(sma d1∧(∃ x121,x121=(checkB x63 d1 (IntKind.i64.wrap ((Int.tmod (IntKind.i64.wrap d2) (8:Int)) + (1:Int))))∧(∃ x124,x124=(resetB d0)∧(smB x124∧(sma d1∧(∃ x128,x128=(checkB x124 d1 (IntKind.i64.wrap ((Int.tmod (IntKind.i64.wrap d2) (8:Int)) + (1:Int))))∧(smN d0∧(sma d1∧(∃ x131,x131=(noteB d0 d1 (IntKind.i64.wrap ((Int.tmod (IntKind.i64.wrap d2) (8:Int)) + (1:Int))) d3)∧(smB x131∧(sma d1∧(∃ x137,x137=(checkB x131 d1 (IntKind.i64.wrap ((Int.tmod (IntKind.i64.wrap d2) (8:Int)) + (1:Int))))∧(smB d0∧(sma d1∧(∃ x140,x140=(ackB d0 d1 (IntKind.i64.wrap ((Int.tmod (IntKind.i64.wrap d2) (8:Int)) + (1:Int))) d4 d5)∧(smB x140∧(sma d1∧(∃ x146,x146=(checkB x140 d1 (IntKind.i64.wrap ((Int.tmod (IntKind.i64.wrap d2) (8:Int)) + (1:Int))))∧(smB d0∧(sma d1∧(∃ x149,x149=(someB d0 d1 (IntKind.i64.wrap ((Int.tmod (IntKind.i64.wrap d2) (8:Int)) + (1:Int))) d5)∧(y=(decide ((x149.length:Int)≤(IntKind.i64.wrap ((Int.tmod (IntKind.i64.wrap d2) (8:Int)) + (1:Int)))))))))))))))))))))))))))))∧(((checkB (ackB d0 d1 (IntKind.i64.wrap ((Int.tmod (IntKind.i64.wrap d2) (8:Int)) + (1:Int))) d4 d5) d1 (IntKind.i64.wrap ((Int.tmod (IntKind.i64.wrap d2) (8:Int)) + (1:Int))))==(0:Int))=false→(smB x63∧(sma d1∧(∃ x316,x316=(checkB x63 d1 (IntKind.i64.wrap ((Int.tmod (IntKind.i64.wrap d2) (8:Int)) + (1:Int))))∧(∃ x319,x319=(resetB d0)∧(smB x319∧(sma d1∧(∃ x323,x323=(checkB x319 d1 (IntKind.i64.wrap ((Int.tmod (IntKind.i64.wrap d2) (8:Int)) + (1:Int))))∧(smN d0∧(sma d1∧(∃ x326,x326=(noteB d0 d1 (IntKind.i64.wrap ((Int.tmod (IntKind.i64.wrap d2) (8:Int)) + (1:Int))) d3)∧(smB x326∧(sma d1∧(∃ x332,x332=(checkB x326 d1 (IntKind.i64.wrap ((Int.tmod (IntKind.i64.wrap d2) (8:Int)) + (1:Int))))∧(smB d0∧(sma d1∧(∃ x335,x335=(ackB d0 d1 (IntKind.i64.wrap ((Int.tmod (IntKind.i64.wrap d2) (8:Int)) + (1:Int))) d4 d5)∧(smB x335∧(sma d1∧(∃ x341,x341=(checkB x335 d1 (IntKind.i64.wrap ((Int.tmod (IntKind.i64.wrap d2) (8:Int)) + (1:Int))))∧(y=false)))))))))))))))))))))))∧(((checkB (noteB d0 d1 (IntKind.i64.wrap ((Int.tmod (IntKind.i64.wrap d2) (8:Int)) + (1:Int))) d3) d1 (IntKind.i64.wrap ((Int.tmod (IntKind.i64.wrap d2) (8:Int)) + (1:Int))))==(0:Int))=false→(smB x63∧(sma d1∧(∃ x484,x484=(checkB x63 d1 (IntKind.i64.wrap ((Int.tmod (IntKind.i64.wrap d2) (8:Int)) + (1:Int))))∧(∃ x487,x487=(resetB d0)∧(smB x487∧(sma d1∧(∃ x491,x491=(checkB x487 d1 (IntKind.i64.wrap ((Int.tmod (IntKind.i64.wrap d2) (8:Int)) + (1:Int))))∧(smN d0∧(sma d1∧(∃ x494,x494=(noteB d0 d1 (IntKind.i64.wrap ((Int.tmod (IntKind.i64.wrap d2) (8:Int)) + (1:Int))) d3)∧(smB x494∧(sma d1∧(∃ x500,x500=(checkB x494 d1 (IntKind.i64.wrap ((Int.tmod (IntKind.i64.wrap d2) (8:Int)) + (1:Int))))∧(y=false)))))))))))))))))∧(((checkB (resetB d0) d1 (IntKind.i64.wrap ((Int.tmod (IntKind.i64.wrap d2) (8:Int)) + (1:Int))))==(0:Int))=false→(smB x63∧(sma d1∧(∃ x606,x606=(checkB x63 d1 (IntKind.i64.wrap ((Int.tmod (IntKind.i64.wrap d2) (8:Int)) + (1:Int))))∧(∃ x609,x609=(resetB d0)∧(smB x609∧(sma d1∧(∃ x613,x613=(checkB x609 d1 (IntKind.i64.wrap ((Int.tmod (IntKind.i64.wrap d2) (8:Int)) + (1:Int))))∧(y=false)))))))))))∧(((checkB x63 d1 (IntKind.i64.wrap ((Int.tmod (IntKind.i64.wrap d2) (8:Int)) + (1:Int))))==(0:Int))=false→(smB x63∧(sma d1∧(∃ x675,x675=(checkB x63 d1 (IntKind.i64.wrap ((Int.tmod (IntKind.i64.wrap d2) (8:Int)) + (1:Int))))∧(y=false)))))))))))))))))))
set_option maxRecDepth 20000 in
set_option maxHeartbeats 4000000 in
theorem law16_BufferMends_c {L:List Nat} {w:World} {csP0:List Value} (d0:Buf) (HP0:Stb L w (fun w=>kBuf.r w csP0 d0)) {csP1:List Value} (d1:Arena) (HP1:Stb L w (fun w=>kArena.r w csP1 d1)) (d2:Int) {csP3:List Value} (d3:Ent) (HP3:Stb L w (fun w=>kEnt.r w csP3 d3)) (d4:Int) (d5:Int) (hL:Lt L w) {y:Bool} (h:law16_BufferMends_raw d0 d1 d2 d3 d4 d5 y) :
  Calls Try.prog 4 [.agg csP0.toArray,.agg csP1.toArray,.int .u8 d2,.agg csP3.toArray,.int .i64 d4,.int .i64 d5].toArray w (Ret fun v w'=>Ext w w'∧v=.bool y):=by
 obtain ⟨A1,c2,rfl,H3⟩:=kBuf_open HP0
 obtain ⟨A4,c5,A7,c8,rfl,H6,H9⟩:=kArena_open HP1
 obtain ⟨A10,c11,A13,c14,rfl,H12,H15⟩:=kEnt_open HP3
 unfold law16_BufferMends_raw at h
 refine calls_ec Try.func4 rfl rfl rfl ?_
 refine ec_seq ?_
 refine ec_region ?_
 refine o_box (cs:=(cBuf d0 A1 c2)) rfl rfl rfl ?_
 intro b16 w16 e16 F16 B16
 have S16:=B16.stb (nin hL e16)
 have G17:Fr L w w16:=Fr.ext F16
 refine o_box (cs:=(cArena d1 A4 c5 A7 c8)) rfl rfl rfl ?_
 intro b18 w18 e18 F18 B18
 have S18:=B18.stb (nin (hL.fr F16) e18)
 have E19:=F16.trans F18
 have G21:Fr L w16 w18:=Fr.ext F18
 refine o_box (cs:=(cEnt d3 A10 c11 A13 c14)) rfl rfl rfl ?_
 intro b22 w22 e22 F22 B22
 have S22:=B22.stb (nin (hL.fr E19) e22)
 have E23:=E19.trans F22
 have G26:Fr L w18 w22:=Fr.ext F22
 refine o_w (v:=.bool false) (r_asg rfl) ?_
 refine eo_nil_sq ?_
 refine ec_seq ?_
 refine ec_region ?_
 refine o_call cf_law16_works rfl (law16_works_c (hL.fr E23) (works16_ev)) rfl rfl ?_
 rintro _ w27 ⟨F27,rfl⟩
 have E28:=E23.trans F27
 have G32:Fr L w22 w27:=Fr.ext F27
 refine o_w (v:=.bool (worksV)) (r_asg rfl) ?_
 refine eo_nil_sq ?_
 iterate 2 refine ec_seq ?_
 refine ec_region ?_
 refine o_w (v:=.bool (worksV)) (r_mov rfl) ?_
 refine o_w (v:=.bool (!(worksV))) (r_not rfl) ?_
 refine eo_nil_sq ?_
 refine ec_cond rfl (fun hc33=>?_) (fun hc33=>?_)
 ·replace h:=h.1 hc33
  refine ec_seq ?_
  refine ec_region ?_
  refine o_w (v:=.bool false) (r_asg rfl) ?_
  refine eo_nil_sq ?_
  refine ec_ret ?_
  refine sq_ret ?_
  subst h
  exact (end1 rfl ⟨_,rfl,E28,rfl⟩)
 ·replace h:=h.2 hc33
  refine ec_skip ?_
  refine sq_n ?_
  refine ec_seq ?_
  refine ec_region ?_
  refine o_w (v:=.agg (cBuf d0 A1 c2).toArray) (r_lda agg_buffer_Buffer rfl (vs:=(cBuf d0 A1 c2)) rfl ((S16.fr ((G21.trans (Fr.ext F22)).trans (Fr.ext F27)) (fun _ h=>h)).now.part (n:=3) rfl)) ?_
  refine o_call cf_law16_Few rfl (law16_Few_c d0 (kBuf_mk (d:=d0) (H3.fr (((G17.trans (Fr.ext F18)).trans (Fr.ext F22)).trans (Fr.ext F27)) (fun _ h=>h))) (hL.fr E28) (fewB_ev d0)) rfl rfl ?_
  rintro _ w36 ⟨F36,rfl⟩
  have E37:=E28.trans F36
  have G38:=(((G17.trans (Fr.ext F18)).trans (Fr.ext F22)).trans (Fr.ext F27)).trans (Fr.ext F36)
  refine o_w (v:=.bool (fewB d0)) (r_mov rfl) ?_
  refine o_vg (v:=.agg (cArena d1 A4 c5 A7 c8).toArray) (want_ct (t:=22) rfl rfl) (fun hk=>(r_lda agg_api_Arena rfl (vs:=(cArena d1 A4 c5 A7 c8)) rfl ((S18.fr ((G26.trans (Fr.ext F27)).trans (Fr.ext F36)) (fun _ h=>h)).now.part (n:=3) rfl))) rfl rfl ?_
  refine o_callg (V:=.bool (fewA d1)) cf_law08_Few (want_ct (t:=22) rfl rfl) (fun hk=>(mapv1 (gdT hk))) (fun hk=>(law08_Few_c d1 (kArena_mk (d:=d1) (H6.fr G38 (fun _ h=>h)) (H9.fr G38 (fun _ h=>h))) (hL.fr E37) (fewA_ev d1))) rfl ?_
  intro w42 F42
  have E43:=E37.trans F42
  have G45:=(((G21.trans (Fr.ext F22)).trans (Fr.ext F27)).trans (Fr.ext F36)).trans (Fr.ext F42)
  refine o_w (v:=.bool ((fewB d0)&&(fewA d1))) (r_pickAnd rfl (fun ht=>(gdT ht)) rfl) ?_
  refine o_w (v:=.bool ((fewB d0)&&(fewA d1))) (r_mov rfl) ?_
  refine o_vg (v:=.agg (cEnt d3 A10 c11 A13 c14).toArray) (want_ct (t:=26) rfl rfl) (fun hk=>(r_lda agg_api_Entry rfl (vs:=(cEnt d3 A10 c11 A13 c14)) rfl ((S22.fr ((G32.trans (Fr.ext F36)).trans (Fr.ext F42)) (fun _ h=>h)).now.part (n:=9) rfl))) rfl rfl ?_
  refine o_callg (V:=.bool (fewE d3)) cf_law07_Few (want_ct (t:=26) rfl rfl) (fun hk=>(mapv1 (gdT hk))) (fun hk=>(law07_Few_c d3 (kEnt_mk (d:=d3) (H12.fr (G38.trans (Fr.ext F42)) (fun _ h=>h)) (H15.fr (G38.trans (Fr.ext F42)) (fun _ h=>h))) (hL.fr E43) (fewE_ev d3))) rfl ?_
  intro w48 F48
  have E49:=E43.trans F48
  have G52:=(((G26.trans (Fr.ext F27)).trans (Fr.ext F36)).trans (Fr.ext F42)).trans (Fr.ext F48)
  refine o_w (v:=.bool (((fewB d0)&&(fewA d1))&&(fewE d3))) (r_pickAnd rfl (fun ht=>(gdT ht)) rfl) ?_
  refine o_w (v:=.bool (((fewB d0)&&(fewA d1))&&(fewE d3))) (r_asg rfl) ?_
  refine eo_nil_sq ?_
  refine ec_seq ?_
  refine ec_region ?_
  refine o_w (v:=.int .u8 d2) (r_mov rfl) ?_
  refine o_w (v:=.int .i64 (IntKind.i64.wrap d2)) (r_conv un_uint8 un_int rfl) ?_
  refine o_w (v:=.int .i64 (Int.tmod (IntKind.i64.wrap d2) (8:Int))) (r_rem rfl rfl rfl) ?_
  refine o_w (v:=.int .i64 (IntKind.i64.wrap ((Int.tmod (IntKind.i64.wrap d2) (8:Int)) + (1:Int)))) (r_int rfl rfl rfl) ?_
  refine o_w (v:=.int .i64 (IntKind.i64.wrap ((Int.tmod (IntKind.i64.wrap d2) (8:Int)) + (1:Int)))) (r_asg rfl) ?_
  refine eo_nil_sq ?_
  iterate 2 refine ec_seq ?_
  refine ec_region ?_
  refine o_w (v:=.bool (((fewB d0)&&(fewA d1))&&(fewE d3))) (r_mov rfl) ?_
  refine o_w (v:=.bool (!(((fewB d0)&&(fewA d1))&&(fewE d3)))) (r_not rfl) ?_
  refine o_w (v:=.bool (!(((fewB d0)&&(fewA d1))&&(fewE d3)))) (r_mov rfl) ?_
  refine o_vg (v:=.agg (cArena d1 A4 c5 A7 c8).toArray) (want_cf (t:=36) rfl rfl) (fun hk=>(r_lda agg_api_Arena rfl (vs:=(cArena d1 A4 c5 A7 c8)) rfl ((S18.fr G52 (fun _ h=>h)).now.part (n:=3) rfl))) rfl rfl ?_
  obtain ⟨ha56,h⟩:=h
  refine o_callg (V:=.int .i64 (checkA d1)) cf_arena_Check (want_cf (t:=36) rfl rfl) (fun hk=>(mapv1 (gdT hk))) (fun hk=>(arena_Check_c d1 (kArena_mk (d:=d1) (H6.fr ((G38.trans (Fr.ext F42)).trans (Fr.ext F48)) (fun _ h=>h)) (H9.fr ((G38.trans (Fr.ext F42)).trans (Fr.ext F48)) (fun _ h=>h))) (hL.fr E49) (arCheck_ev d1 (ha56 hk)))) rfl ?_
  intro w55 F55
  have E57:=E49.trans F55
  have G61:=(((G32.trans (Fr.ext F36)).trans (Fr.ext F42)).trans (Fr.ext F48)).trans (Fr.ext F55)
  refine o_vg (v:=.bool ((checkA d1) != (0:Int))) (want_cf (t:=36) rfl rfl) (fun hk=>(r_int (gdT hk) rfl rfl)) rfl rfl ?_
  refine o_w (v:=.bool ((!(((fewB d0)&&(fewA d1))&&(fewE d3)))||((checkA d1) != (0:Int)))) (r_pickOr rfl rfl (fun hf=>(gdT (notT hf)))) ?_
  refine eo_nil_sq ?_
  refine ec_cond rfl (fun hc62=>?_) (fun hc62=>?_)
  ·replace h:=h.1 hc62
   refine ec_seq ?_
   refine ec_region ?_
   refine o_w (v:=.bool (worksV)) (r_mov rfl) ?_
   refine o_w (v:=.bool (worksV)) (r_asg rfl) ?_
   refine eo_nil_sq ?_
   refine ec_ret ?_
   refine sq_ret ?_
   subst h
   exact (end1 rfl ⟨_,rfl,E57,rfl⟩)
  ·replace h:=h.2 hc62
   refine ec_skip ?_
   refine sq_n ?_
   refine ec_seq ?_
   refine ec_region ?_
   refine o_w (v:=.agg (cBuf d0 A1 c2).toArray) (r_lda agg_buffer_Buffer rfl (vs:=(cBuf d0 A1 c2)) rfl ((S16.fr ((G45.trans (Fr.ext F48)).trans (Fr.ext F55)) (fun _ h=>h)).now.part (n:=3) rfl)) ?_
   refine o_w (v:=.agg (cArena d1 A4 c5 A7 c8).toArray) (r_lda agg_api_Arena rfl (vs:=(cArena d1 A4 c5 A7 c8)) rfl ((S18.fr (G52.trans (Fr.ext F55)) (fun _ h=>h)).now.part (n:=3) rfl)) ?_
   refine o_w (v:=.int .i64 (IntKind.i64.wrap ((Int.tmod (IntKind.i64.wrap d2) (8:Int)) + (1:Int)))) (r_mov rfl) ?_
   obtain ⟨ha64,h⟩:=h
   obtain ⟨ha65,h⟩:=h
   obtain ⟨x63,hx63,h⟩:=h
   refine o_call cf_buffer_Mend rfl (buffer_Mend_c d0 (kBuf_mk (d:=d0) (H3.fr (((G38.trans (Fr.ext F42)).trans (Fr.ext F48)).trans (Fr.ext F55)) (fun _ h=>h))) d1 (kArena_mk (d:=d1) (H6.fr (((G38.trans (Fr.ext F42)).trans (Fr.ext F48)).trans (Fr.ext F55)) (fun _ h=>h)) (H9.fr (((G38.trans (Fr.ext F42)).trans (Fr.ext F48)).trans (Fr.ext F55)) (fun _ h=>h))) (IntKind.i64.wrap ((Int.tmod (IntKind.i64.wrap d2) (8:Int)) + (1:Int))) (hL.fr E57) (eq_ev hx63 (bufMend_ev d0 d1 (IntKind.i64.wrap ((Int.tmod (IntKind.i64.wrap d2) (8:Int)) + (1:Int))) ha64 ha65))) rfl rfl ?_
   rintro _ w63 ⟨F63,cs66,rfl,H67⟩
   have E68:=E57.trans F63
   have G69:=(((G38.trans (Fr.ext F42)).trans (Fr.ext F48)).trans (Fr.ext F55)).trans (Fr.ext F63)
   obtain ⟨A73,c74,rfl,H75⟩:=kBuf_open H67
   refine o_alloc zero_buffer_Buffer rfl rfl rfl ?_
   intro b76 w76 e76 F76 B76
   have n76:w.heap.size≤b76:=by rw [e76]; exact E68.size
   have m77:w.heap.size≤b76:=by rw [e76]; exact G69.size
   have m78:w16.heap.size≤b76:=by rw [e76]; exact (((G45.trans (Fr.ext F48)).trans (Fr.ext F55)).trans (Fr.ext F63)).size
   have m79:w18.heap.size≤b76:=by rw [e76]; exact ((G52.trans (Fr.ext F55)).trans (Fr.ext F63)).size
   have m80:w22.heap.size≤b76:=by rw [e76]; exact (G61.trans (Fr.ext F63)).size
   have m81:w63.heap.size≤b76:=Nat.le_of_eq e76.symm
   have E82:=E68.trans F76
   have G84:=(((G45.trans (Fr.ext F48)).trans (Fr.ext F55)).trans (Fr.ext F63)).trans (Fr.ext F76)
   have G87:Fr L w63 w76:=Fr.ext F76
   refine o_store rfl B76 (vs:=(cBuf x63 A73 c74)) rfl sz_buffer_Buffer rfl rfl rfl ?_
   intro w88 F88 B88
   have E89:=Ext.st E82 F88 (by simp; omega)
   have G90:Fr L w w88:=(G69.trans (Fr.ext F76)).stp F88 (upc (.inr m77) (fun m hm=>by cases hm))
   have G91:Fr L w16 w88:=G84.stp F88 (upc (.inr m78) (fun m hm=>by cases hm))
   have G92:Fr L w18 w88:=(((G52.trans (Fr.ext F55)).trans (Fr.ext F63)).trans (Fr.ext F76)).stp F88 (upc (.inr m79) (fun m hm=>by cases hm))
   have G93:Fr L w22 w88:=((G61.trans (Fr.ext F63)).trans (Fr.ext F76)).stp F88 (upc (.inr m80) (fun m hm=>by cases hm))
   have G94:Fr L w63 w88:=G87.stp F88 (upc (.inr m81) (fun m hm=>by cases hm))
   have B88':Blk w88 b76 _ (cBuf x63 A73 c74):=B88
   refine eo_nil_sq ?_
   iterate 2 refine ec_seq ?_
   refine ec_region ?_
   refine o_w (v:=.agg (cBuf d0 A1 c2).toArray) (r_lda agg_buffer_Buffer rfl (vs:=(cBuf d0 A1 c2)) rfl ((S16.fr G91 (fun _ h=>h)).now.part (n:=3) rfl)) ?_
   refine o_w (v:=.agg (cArena d1 A4 c5 A7 c8).toArray) (r_lda agg_api_Arena rfl (vs:=(cArena d1 A4 c5 A7 c8)) rfl ((S18.fr G92 (fun _ h=>h)).now.part (n:=3) rfl)) ?_
   refine o_w (v:=.int .i64 (IntKind.i64.wrap ((Int.tmod (IntKind.i64.wrap d2) (8:Int)) + (1:Int)))) (r_mov rfl) ?_
   obtain ⟨ha97,h⟩:=h
   obtain ⟨ha98,h⟩:=h
   obtain ⟨x96,hx96,h⟩:=h
   refine o_call cf_buffer_Check rfl (buffer_Check_c d0 (kBuf_mk (d:=d0) (H3.up G90 (fun _ h=>h) (upc (.inr m77) (fun _ h=>.inl h)))) d1 (kArena_mk (d:=d1) (H6.up G90 (fun _ h=>h) (upc (.inr m77) (fun _ h=>.inl h))) (H9.up G90 (fun _ h=>h) (upc (.inr m77) (fun _ h=>.inl h)))) (IntKind.i64.wrap ((Int.tmod (IntKind.i64.wrap d2) (8:Int)) + (1:Int))) ((hL.fr E89).cons B88'.lt) (eq_ev hx96 (bufCheck_ev d0 d1 (IntKind.i64.wrap ((Int.tmod (IntKind.i64.wrap d2) (8:Int)) + (1:Int))) ha97 ha98))) rfl rfl ?_
   rintro _ w96 ⟨F96,rfl⟩
   have E99:=E89.trans F96
   refine o_w (v:=.bool (x96==(0:Int))) (r_int rfl rfl rfl) ?_
   refine o_w (v:=.bool (x96==(0:Int))) (r_mov rfl) ?_
   refine o_vg (v:=.agg (cBuf x63 A73 c74).toArray) (want_ct (t:=51) rfl rfl) (fun hk=>(r_lda agg_buffer_Buffer rfl (vs:=(cBuf x63 A73 c74)) rfl ((B88'.ex F96).part (n:=3) rfl))) rfl rfl ?_
   refine o_vg (v:=.agg (cBuf d0 A1 c2).toArray) (want_ct (t:=51) rfl rfl) (fun hk=>(r_lda agg_buffer_Buffer rfl (vs:=(cBuf d0 A1 c2)) rfl ((S16.fr (G91.trans (Fr.ext F96)) (fun _ h=>h)).now.part (n:=3) rfl))) rfl rfl ?_
   obtain ⟨ha107,h⟩:=h
   refine o_callg (V:=.bool (sameB x63 d0)) cf_buffer_Same (want_ct (t:=51) rfl rfl) (fun hk=>(mapv2 (gdT hk) (gdT hk))) (fun hk=>(buffer_Same_c x63 (kBuf_mk (d:=x63) (H75.up (G94.trans (Fr.ext F96)) (fun _ h=>h) (upc (.inr m81) (fun _ h=>.inl h)))) d0 (kBuf_mk (d:=d0) (H3.up (G90.trans (Fr.ext F96)) (fun _ h=>h) (upc (.inr m77) (fun _ h=>.inl h)))) ((hL.fr E99).cons (B88'.ex F96).lt) (bufSame_ev x63 d0 (ha107 hk)))) rfl ?_
   intro w106 F106
   have E108:=E99.trans F106
   refine o_vg (v:=.bool (!(sameB x63 d0))) (want_ct (t:=51) rfl rfl) (fun hk=>(r_not (gdT hk))) rfl rfl ?_
   refine o_w (v:=.bool ((x96==(0:Int))&&(!(sameB x63 d0)))) (r_pickAnd rfl (fun ht=>(gdT ht)) rfl) ?_
   refine eo_nil_sq ?_
   refine ec_cond rfl (fun hc115=>?_) (fun hc115=>?_)
   ·replace h:=h.1 hc115
    refine ec_seq ?_
    refine ec_region ?_
    refine o_w (v:=.bool false) (r_asg rfl) ?_
    refine eo_nil_sq ?_
    refine ec_ret ?_
    refine sq_ret ?_
    subst h
    exact (end1 rfl ⟨_,rfl,E108,rfl⟩)
   ·replace h:=h.2 hc115
    refine ec_skip ?_
    refine sq_n ?_
    refine ec_seq ?_
    rcases Bool.eq_false_or_eq_true ((checkB x63 d1 (IntKind.i64.wrap ((Int.tmod (IntKind.i64.wrap d2) (8:Int)) + (1:Int))))==(0:Int)) with hc116 | hc116
    ·replace h:=h.1 hc116
     rcases Bool.eq_false_or_eq_true ((checkB (resetB d0) d1 (IntKind.i64.wrap ((Int.tmod (IntKind.i64.wrap d2) (8:Int)) + (1:Int))))==(0:Int)) with hc117 | hc117
     ·replace h:=h.1 hc117
      rcases Bool.eq_false_or_eq_true ((checkB (noteB d0 d1 (IntKind.i64.wrap ((Int.tmod (IntKind.i64.wrap d2) (8:Int)) + (1:Int))) d3) d1 (IntKind.i64.wrap ((Int.tmod (IntKind.i64.wrap d2) (8:Int)) + (1:Int))))==(0:Int)) with hc118 | hc118
      ·replace h:=h.1 hc118
       rcases Bool.eq_false_or_eq_true ((checkB (ackB d0 d1 (IntKind.i64.wrap ((Int.tmod (IntKind.i64.wrap d2) (8:Int)) + (1:Int))) d4 d5) d1 (IntKind.i64.wrap ((Int.tmod (IntKind.i64.wrap d2) (8:Int)) + (1:Int))))==(0:Int)) with hc119 | hc119
       ·replace h:=h.1 hc119
        obtain ⟨ha122,h⟩:=h
        obtain ⟨ha123,h⟩:=h
        obtain ⟨x121,hx121,h⟩:=h
        obtain ⟨x124,hx124,h⟩:=h
        obtain ⟨ha129,h⟩:=h
        obtain ⟨ha130,h⟩:=h
        obtain ⟨x128,hx128,h⟩:=h
        obtain ⟨ha132,h⟩:=h
        obtain ⟨ha133,h⟩:=h
        obtain ⟨x131,hx131,h⟩:=h
        obtain ⟨ha138,h⟩:=h
        obtain ⟨ha139,h⟩:=h
        obtain ⟨x137,hx137,h⟩:=h
        obtain ⟨ha141,h⟩:=h
        obtain ⟨ha142,h⟩:=h
        obtain ⟨x140,hx140,h⟩:=h
        obtain ⟨ha147,h⟩:=h
        obtain ⟨ha148,h⟩:=h
        obtain ⟨x146,hx146,h⟩:=h
        obtain ⟨ha150,h⟩:=h
        obtain ⟨ha151,h⟩:=h
        obtain ⟨x149,hx149,h⟩:=h
        refine ec_any0 (by kernel_rfl) [[],[0],[0,1],[0,1],[0,1],[0,1,2,3,4],[0,1,2,3,4,5],[0,1,2,3,4,5,6],[0,1,2,3,4,5,6,7],[0,1,2,3,4,5,6,7,8],[0,1,2,3,4,5,6,7,8,9],[0,1,2,3,4,5,6,7,8],[0,1,2,3,4,5,6,7,8],[0,1,2,3,4,5,6,7,8,9,10,11,12],[0,1,2,3,4,5,6,7,8,9,10,11,12,13],[0,1,2,3,4,5,6,7,8,9,10,11,12,13,14],[0,1,2,3,4,5,6,7,8,9,10,11,12,13,14,15],[0,1,2,3,4,5,6,7,8,9,10,11,12,13,14,15,16],[0,1,2,3,4,5,6,7,8,9,10,11,12,13,14,15,16],[0,1,2,3,4,5,6,7,8,9,10,11,12,13,14,15,16],[0,1,2,3,4,5,6,7,8,9,10,11,12,13,14,15,16],[0,1,2,3,4,5,6,7,8,9,10,11,12,13,14,15,16,17,18,19,20],[0,1,2,3,4,5,6,7,8,9,10,11,12,13,14,15,16],[0,1,2,3,4,5,6,7,8,9,10,11,12,13,14,15,16],[0,1,2,3,4,5,6,7,8,9,10,11,12,13,14,15,16,17,18,19,20,21,22,23],[0,1,2,3,4,5,6,7,8,9,10,11,12,13,14,15,16,17,18,19,20,21,22,23,24],[0,1,2,3,4,5,6,7,8,9,10,11,12,13,14,15,16,17,18,19,20,21,22,23,24,25],[0,1,2,3,4,5,6,7,8,9,10,11,12,13,14,15,16,17,18,19,20,21,22,23,24,25,26],[0,1,2,3,4,5,6,7,8,9,10,11,12,13,14,15,16,17,18,19,20,21,22,23,24,25,26,27],[0,1,2,3,4,5,6,7,8,9,10,11,12,13,14,15,16,17,18,19,20,21,22,23,24,25,26,27],[0,1,2,3,4,5,6,7,8,9,10,11,12,13,14,15,16,17,18,19,20,21,22,23,24,25,26,27],[0,1,2,3,4,5,6,7,8,9,10,11,12,13,14,15,16,17,18,19,20,21,22,23,24,25,26,27],[0,1,2,3,4,5,6,7,8,9,10,11,12,13,14,15,16,17,18,19,20,21,22,23,24,25,26,27],[0,1,2,3,4,5,6,7,8,9,10,11,12,13,14,15,16,17,18,19,20,21,22,23,24,25,26,27,28,29,30,31,32],[0,1,2,3,4,5,6,7,8,9,10,11,12,13,14,15,16,17,18,19,20,21,22,23,24,25,26,27],[0,1,2,3,4,5,6,7,8,9,10,11,12,13,14,15,16,17,18,19,20,21,22,23,24,25,26,27],[0,1,2,3,4,5,6,7,8,9,10,11,12,13,14,15,16,17,18,19,20,21,22,23,24,25,26,27,28,29,30,31,32,33,34,35],[0,1,2,3,4,5,6,7,8,9,10,11,12,13,14,15,16,17,18,19,20,21,22,23,24,25,26,27,28,29,30,31,32,33,34,35,36],[0,1,2,3,4,5,6,7,8,9,10,11,12,13,14,15,16,17,18,19,20,21,22,23,24,25,26,27,28,29,30,31,32,33,34,35,36,37],[0,1,2,3,4,5,6,7,8,9,10,11,12,13,14,15,16,17,18,19,20,21,22,23,24,25,26,27,28,29,30,31,32,33,34,35,36,37,38],[0,1,2,3,4,5,6,7,8,9,10,11,12,13,14,15,16,17,18,19,20,21,22,23,24,25,26,27,28,29,30,31,32,33,34,35,36,37,38,39],[0,1,2,3,4,5,6,7,8,9,10,11,12,13,14,15,16,17,18,19,20,21,22,23,24,25,26,27,28,29,30,31,32,33,34,35,36,37,38,39],[0,1,2,3,4,5,6,7,8,9,10,11,12,13,14,15,16,17,18,19,20,21,22,23,24,25,26,27,28,29,30,31,32,33,34,35,36,37,38,39],[0,1,2,3,4,5,6,7,8,9,10,11,12,13,14,15,16,17,18,19,20,21,22,23,24,25,26,27,28,29,30,31,32,33,34,35,36,37,38,39],[0,1,2,3,4,5,6,7,8,9,10,11,12,13,14,15,16,17,18,19,20,21,22,23,24,25,26,27,28,29,30,31,32,33,34,35,36,37,38,39,40,41,42,43],[0,1,2,3,4,5,6,7,8,9,10,11,12,13,14,15,16,17,18,19,20,21,22,23,24,25,26,27,28,29,30,31,32,33,34,35,36,37,38,39,40,41,42,43,44],[0,1,2,3,4,5,6,7,8,9,10,11,12,13,14,15,16,17,18,19,20,21,22,23,24,25,26,27,28,29,30,31,32,33,34,35,36,37,38,39],[0,1,2,3,4,5,6,7,8,9,10,11,12,13,14,15,16,17,18,19,20,21,22,23,24,25,26,27,28,29,30,31,32,33,34,35,36,37,38,39,40,41,42,43,44,45,46],[0,1,2,3,4,5,6,7,8,9,10,11,12,13,14,15,16,17,18,19,20,21,22,23,24,25,26,27,28,29,30,31,32,33,34,35,36,37,38,39,40,41,42,43,44,45,46,47],[0,1,2,3,4,5,6,7,8,9,10,11,12,13,14,15,16,17,18,19,20,21,22,23,24,25,26,27,28,29,30,31,32,33,34,35,36,37,38,39,40,41,42,43,44,45,46,47,48]] [12,57,58,59,60,61,62,63,64,65,66,67,68,69,70,71,72,73,74,75,76,77,78,79,80,81,82,83,84,85,86,87,88,89,90,91,92,93,94,95,96,97,98,99,100,101,102,103,104,105] [fun v _=>v=(.bool (worksV):Value),fun v _=>v=(.bool (worksV):Value),fun v _=>v=(.agg (cBuf x63 A73 c74).toArray:Value),fun v _=>v=(.agg (cArena d1 A4 c5 A7 c8).toArray:Value),fun v _=>v=(.int .i64 (IntKind.i64.wrap ((Int.tmod (IntKind.i64.wrap d2) (8:Int)) + (1:Int))):Value),fun v _=>v=(.int .i64 x121:Value),fun v _=>v=(.bool (x121==(0:Int)):Value),fun v _=>v=(.bool (x121==(0:Int)):Value),fun v _=>v=(.bool (x121==(0:Int)):Value),fun v _=>v=(.agg (cBuf d0 A1 c2).toArray:Value),fun v w'=>∃ A125 c126,v=(.agg (cBuf x124 A125 c126).toArray:Value)∧Stb (b76::L) w' (fun w=>SlC kNm w A125 c126 x124.names),fun v _=>v=(.agg (cArena d1 A4 c5 A7 c8).toArray:Value),fun v _=>v=(.int .i64 (IntKind.i64.wrap ((Int.tmod (IntKind.i64.wrap d2) (8:Int)) + (1:Int))):Value),fun v _=>v=(.int .i64 x128:Value),fun v _=>v=(.bool (x128==(0:Int)):Value),fun v _=>v=(.bool (x128==(0:Int)):Value),fun v _=>v=(.bool (x128==(0:Int)):Value),fun v _=>v=(.agg (cBuf d0 A1 c2).toArray:Value),fun v _=>v=(.agg (cArena d1 A4 c5 A7 c8).toArray:Value),fun v _=>v=(.int .i64 (IntKind.i64.wrap ((Int.tmod (IntKind.i64.wrap d2) (8:Int)) + (1:Int))):Value),fun v _=>v=(.agg (cEnt d3 A10 c11 A13 c14).toArray:Value),fun v w'=>∃ A134 c135,v=(.agg (cBuf x131 A134 c135).toArray:Value)∧Stb (b76::L) w' (fun w=>SlC kNm w A134 c135 x131.names),fun v _=>v=(.agg (cArena d1 A4 c5 A7 c8).toArray:Value),fun v _=>v=(.int .i64 (IntKind.i64.wrap ((Int.tmod (IntKind.i64.wrap d2) (8:Int)) + (1:Int))):Value),fun v _=>v=(.int .i64 x137:Value),fun v _=>v=(.bool (x137==(0:Int)):Value),fun v _=>v=(.bool (x137==(0:Int)):Value),fun v _=>v=(.bool (x137==(0:Int)):Value),fun v _=>v=(.agg (cBuf d0 A1 c2).toArray:Value),fun v _=>v=(.agg (cArena d1 A4 c5 A7 c8).toArray:Value),fun v _=>v=(.int .i64 (IntKind.i64.wrap ((Int.tmod (IntKind.i64.wrap d2) (8:Int)) + (1:Int))):Value),fun v _=>v=(.int .i64 d4:Value),fun v _=>v=(.int .i64 d5:Value),fun v w'=>∃ A143 c144,v=(.agg (cBuf x140 A143 c144).toArray:Value)∧Stb (b76::L) w' (fun w=>SlC kNm w A143 c144 x140.names),fun v _=>v=(.agg (cArena d1 A4 c5 A7 c8).toArray:Value),fun v _=>v=(.int .i64 (IntKind.i64.wrap ((Int.tmod (IntKind.i64.wrap d2) (8:Int)) + (1:Int))):Value),fun v _=>v=(.int .i64 x146:Value),fun v _=>v=(.bool (x146==(0:Int)):Value),fun v _=>v=(.bool (x146==(0:Int)):Value),fun v _=>v=(.bool (x146==(0:Int)):Value),fun v _=>v=(.agg (cBuf d0 A1 c2).toArray:Value),fun v _=>v=(.agg (cArena d1 A4 c5 A7 c8).toArray:Value),fun v _=>v=(.int .i64 (IntKind.i64.wrap ((Int.tmod (IntKind.i64.wrap d2) (8:Int)) + (1:Int))):Value),fun v _=>v=(.int .i64 d5:Value),fun v w'=>∃ A152 c153,v=(.slice A152 x149.length c153:Value)∧Stb (b76::L) w' (fun w=>SlC kEnt w A152 c153 x149),fun v _=>v=(.int .i64 (x149.length:Int):Value),fun v _=>v=(.int .i64 (IntKind.i64.wrap ((Int.tmod (IntKind.i64.wrap d2) (8:Int)) + (1:Int))):Value),fun v _=>v=(.bool (decide ((x149.length:Int)≤(IntKind.i64.wrap ((Int.tmod (IntKind.i64.wrap d2) (8:Int)) + (1:Int))))):Value),fun v _=>v=(.bool (decide ((x149.length:Int)≤(IntKind.i64.wrap ((Int.tmod (IntKind.i64.wrap d2) (8:Int)) + (1:Int))))):Value),fun v _=>v=(.bool (decide ((x149.length:Int)≤(IntKind.i64.wrap ((Int.tmod (IntKind.i64.wrap d2) (8:Int)) + (1:Int))))):Value)] (by kernel_rfl) ⟨fun _ _ _ _ _ h=>h,fun _ _ _ _ _ h=>h,fun _ _ _ _ _ h=>h,fun _ _ _ _ _ h=>h,fun _ _ _ _ _ h=>h,fun _ _ _ _ _ h=>h,fun _ _ _ _ _ h=>h,fun _ _ _ _ _ h=>h,fun _ _ _ _ _ h=>h,fun _ _ _ _ _ h=>h,fun _ v w' w'' F h=>by obtain ⟨A125,c126,hv,H127⟩:=h; exact ⟨A125,c126,hv,(H127.ex F)⟩,fun _ _ _ _ _ h=>h,fun _ _ _ _ _ h=>h,fun _ _ _ _ _ h=>h,fun _ _ _ _ _ h=>h,fun _ _ _ _ _ h=>h,fun _ _ _ _ _ h=>h,fun _ _ _ _ _ h=>h,fun _ _ _ _ _ h=>h,fun _ _ _ _ _ h=>h,fun _ _ _ _ _ h=>h,fun _ v w' w'' F h=>by obtain ⟨A134,c135,hv,H136⟩:=h; exact ⟨A134,c135,hv,(H136.ex F)⟩,fun _ _ _ _ _ h=>h,fun _ _ _ _ _ h=>h,fun _ _ _ _ _ h=>h,fun _ _ _ _ _ h=>h,fun _ _ _ _ _ h=>h,fun _ _ _ _ _ h=>h,fun _ _ _ _ _ h=>h,fun _ _ _ _ _ h=>h,fun _ _ _ _ _ h=>h,fun _ _ _ _ _ h=>h,fun _ _ _ _ _ h=>h,fun _ v w' w'' F h=>by obtain ⟨A143,c144,hv,H145⟩:=h; exact ⟨A143,c144,hv,(H145.ex F)⟩,fun _ _ _ _ _ h=>h,fun _ _ _ _ _ h=>h,fun _ _ _ _ _ h=>h,fun _ _ _ _ _ h=>h,fun _ _ _ _ _ h=>h,fun _ _ _ _ _ h=>h,fun _ _ _ _ _ h=>h,fun _ _ _ _ _ h=>h,fun _ _ _ _ _ h=>h,fun _ _ _ _ _ h=>h,fun _ v w' w'' F h=>by obtain ⟨A152,c153,hv,H154⟩:=h; exact ⟨A152,c153,hv,(H154.ex F)⟩,fun _ _ _ _ _ h=>h,fun _ _ _ _ _ h=>h,fun _ _ _ _ _ h=>h,fun _ _ _ _ _ h=>h,fun _ _ _ _ _ h=>h,trivial⟩ ?_ ?_
        ·refine ⟨?_,?_,?_,?_,?_,?_,?_,?_,?_,?_,?_,?_,?_,?_,?_,?_,?_,?_,?_,?_,?_,?_,?_,?_,?_,?_,?_,?_,?_,?_,?_,?_,?_,?_,?_,?_,?_,?_,?_,?_,?_,?_,?_,?_,?_,?_,?_,?_,?_,?_,trivial⟩
         ·intro ρ w120o F120o hS hρ
          have q13:ρ 13=.bool (worksV):=hρ 13 (by kernel_rfl)
          exact o_q (r_mov q13) ⟨Fr.refl _ _,rfl⟩
         ·intro ρ w120o F120o hS hρ
          have q57:ρ 57=.bool (worksV):=hS 0 (by decide) 57 rfl
          exact o_q (r_mov q57) ⟨Fr.refl _ _,rfl⟩
         ·intro ρ w120o F120o hS hρ
          have q16:ρ 16=.pointer (some ⟨b76,0,none⟩):=hρ 16 (by kernel_rfl)
          have q58:ρ 58=.bool (worksV):=hS 1 (by decide) 58 rfl
          exact o_v (r_lda agg_buffer_Buffer q16 (vs:=(cBuf x63 A73 c74)) rfl ((((B88'.ex F96).ex F106).ex F120o).part (n:=3) rfl)) (want_t (t:=58) rfl q58 (of_not hc33)) rfl rfl (eo_nil ⟨rfl,rfl,_,rfl,Fr.refl _ _,rfl⟩)
         ·intro ρ w120o F120o hS hρ
          have q7:ρ 7=.pointer (some ⟨b18,0,none⟩):=hρ 7 (by kernel_rfl)
          have q58:ρ 58=.bool (worksV):=hS 1 (by decide) 58 rfl
          exact o_v (r_lda agg_api_Arena q7 (vs:=(cArena d1 A4 c5 A7 c8)) rfl ((S18.fr (((G92.trans (Fr.ext F96)).trans (Fr.ext F106)).trans (Fr.ext F120o)) (fun _ h=>h)).now.part (n:=3) rfl)) (want_t (t:=58) rfl q58 (of_not hc33)) rfl rfl (eo_nil ⟨rfl,rfl,_,rfl,Fr.refl _ _,rfl⟩)
         ·intro ρ w120o F120o hS hρ
          have q15:ρ 15=.int .i64 (IntKind.i64.wrap ((Int.tmod (IntKind.i64.wrap d2) (8:Int)) + (1:Int))):=hρ 15 (by kernel_rfl)
          have q58:ρ 58=.bool (worksV):=hS 1 (by decide) 58 rfl
          exact o_v (r_mov q15) (want_t (t:=58) rfl q58 (of_not hc33)) rfl rfl (eo_nil ⟨rfl,rfl,_,rfl,Fr.refl _ _,rfl⟩)
         ·intro ρ w120o F120o hS hρ
          have E169:=E108.trans F120o
          have q58:ρ 58=.bool (worksV):=hS 1 (by decide) 58 rfl
          have q59:ρ 59=.agg (cBuf x63 A73 c74).toArray:=hS 2 (by decide) 59 rfl
          have q60:ρ 60=.agg (cArena d1 A4 c5 A7 c8).toArray:=hS 3 (by decide) 60 rfl
          have q61:ρ 61=.int .i64 (IntKind.i64.wrap ((Int.tmod (IntKind.i64.wrap d2) (8:Int)) + (1:Int))):=hS 4 (by decide) 61 rfl
          refine o_call cf_buffer_Check (by simp only [List.map,ev,q59,q60,q61] <;> rfl) (buffer_Check_c x63 (kBuf_mk (d:=x63) (H75.up (((G94.trans (Fr.ext F96)).trans (Fr.ext F106)).trans (Fr.ext F120o)) (fun _ h=>h) (upc (.inr m81) (fun _ h=>.inl h)))) d1 (kArena_mk (d:=d1) (H6.up (((G90.trans (Fr.ext F96)).trans (Fr.ext F106)).trans (Fr.ext F120o)) (fun _ h=>h) (upc (.inr m77) (fun _ h=>.inl h))) (H9.up (((G90.trans (Fr.ext F96)).trans (Fr.ext F106)).trans (Fr.ext F120o)) (fun _ h=>h) (upc (.inr m77) (fun _ h=>.inl h)))) (IntKind.i64.wrap ((Int.tmod (IntKind.i64.wrap d2) (8:Int)) + (1:Int))) ((hL.fr E169).cons (((B88'.ex F96).ex F106).ex F120o).lt) (eq_ev hx121 (bufCheck_ev x63 d1 (IntKind.i64.wrap ((Int.tmod (IntKind.i64.wrap d2) (8:Int)) + (1:Int))) ha122 ha123))) (want_t (t:=58) rfl q58 (of_not hc33)) rfl ?_
          rintro _ w' ⟨F,rfl⟩
          exact eo_nil ⟨rfl,rfl,_,rfl,F,rfl⟩
         ·intro ρ w120o F120o hS hρ
          have q58:ρ 58=.bool (worksV):=hS 1 (by decide) 58 rfl
          have q62:ρ 62=.int .i64 x121:=hS 5 (by decide) 62 rfl
          exact o_v (r_int q62 rfl rfl) (want_t (t:=58) rfl q58 (of_not hc33)) rfl rfl (eo_nil ⟨rfl,rfl,_,rfl,Fr.refl _ _,rfl⟩)
         ·intro ρ w120o F120o hS hρ
          have q58:ρ 58=.bool (worksV):=hS 1 (by decide) 58 rfl
          have q63:ρ 63=.bool (x121==(0:Int)):=hS 6 (by decide) 63 rfl
          exact o_q (r_pickT q58 (of_not hc33) q63) ⟨Fr.refl _ _,rfl⟩
         ·intro ρ w120o F120o hS hρ
          have q64:ρ 64=.bool (x121==(0:Int)):=hS 7 (by decide) 64 rfl
          exact o_q (r_mov q64) ⟨Fr.refl _ _,rfl⟩
         ·intro ρ w120o F120o hS hρ
          have q6:ρ 6=.pointer (some ⟨b16,0,none⟩):=hρ 6 (by kernel_rfl)
          have q65:ρ 65=.bool (x121==(0:Int)):=hS 8 (by decide) 65 rfl
          exact o_v (r_lda agg_buffer_Buffer q6 (vs:=(cBuf d0 A1 c2)) rfl ((S16.fr (((G91.trans (Fr.ext F96)).trans (Fr.ext F106)).trans (Fr.ext F120o)) (fun _ h=>h)).now.part (n:=3) rfl)) (want_t (t:=65) rfl q65 (by rw [hx121]; exact hc116)) rfl rfl (eo_nil ⟨rfl,rfl,_,rfl,Fr.refl _ _,rfl⟩)
         ·intro ρ w120o F120o hS hρ
          have E183:=E108.trans F120o
          have q65:ρ 65=.bool (x121==(0:Int)):=hS 8 (by decide) 65 rfl
          have q66:ρ 66=.agg (cBuf d0 A1 c2).toArray:=hS 9 (by decide) 66 rfl
          refine o_call cf_buffer_Reset (by simp only [List.map,ev,q66] <;> rfl) (buffer_Reset_c d0 (kBuf_mk (d:=d0) (H3.up (((G90.trans (Fr.ext F96)).trans (Fr.ext F106)).trans (Fr.ext F120o)) (fun _ h=>h) (upc (.inr m77) (fun _ h=>.inl h)))) ((hL.fr E183).cons (((B88'.ex F96).ex F106).ex F120o).lt) (eq_ev hx124 (bufReset_ev d0))) (want_t (t:=65) rfl q65 (by rw [hx121]; exact hc116)) rfl ?_
          rintro _ w' ⟨F,cs190,rfl,H191⟩
          obtain ⟨A125,c126,rfl,H127⟩:=kBuf_open H191
          exact eo_nil ⟨rfl,rfl,_,rfl,F,⟨A125,c126,rfl,H127⟩⟩
         ·intro ρ w120o F120o hS hρ
          have q7:ρ 7=.pointer (some ⟨b18,0,none⟩):=hρ 7 (by kernel_rfl)
          have q65:ρ 65=.bool (x121==(0:Int)):=hS 8 (by decide) 65 rfl
          exact o_v (r_lda agg_api_Arena q7 (vs:=(cArena d1 A4 c5 A7 c8)) rfl ((S18.fr (((G92.trans (Fr.ext F96)).trans (Fr.ext F106)).trans (Fr.ext F120o)) (fun _ h=>h)).now.part (n:=3) rfl)) (want_t (t:=65) rfl q65 (by rw [hx121]; exact hc116)) rfl rfl (eo_nil ⟨rfl,rfl,_,rfl,Fr.refl _ _,rfl⟩)
         ·intro ρ w120o F120o hS hρ
          have q15:ρ 15=.int .i64 (IntKind.i64.wrap ((Int.tmod (IntKind.i64.wrap d2) (8:Int)) + (1:Int))):=hρ 15 (by kernel_rfl)
          have q65:ρ 65=.bool (x121==(0:Int)):=hS 8 (by decide) 65 rfl
          exact o_v (r_mov q15) (want_t (t:=65) rfl q65 (by rw [hx121]; exact hc116)) rfl rfl (eo_nil ⟨rfl,rfl,_,rfl,Fr.refl _ _,rfl⟩)
         ·intro ρ w120o F120o hS hρ
          have E199:=E108.trans F120o
          have q65:ρ 65=.bool (x121==(0:Int)):=hS 8 (by decide) 65 rfl
          obtain ⟨A125,c126,q67,H127⟩:=hS 10 (by decide) 67 rfl
          have q68:ρ 68=.agg (cArena d1 A4 c5 A7 c8).toArray:=hS 11 (by decide) 68 rfl
          have q69:ρ 69=.int .i64 (IntKind.i64.wrap ((Int.tmod (IntKind.i64.wrap d2) (8:Int)) + (1:Int))):=hS 12 (by decide) 69 rfl
          refine o_call cf_buffer_Check (by simp only [List.map,ev,q67,q68,q69] <;> rfl) (buffer_Check_c x124 (kBuf_mk (d:=x124) H127) d1 (kArena_mk (d:=d1) (H6.up (((G90.trans (Fr.ext F96)).trans (Fr.ext F106)).trans (Fr.ext F120o)) (fun _ h=>h) (upc (.inr m77) (fun _ h=>.inl h))) (H9.up (((G90.trans (Fr.ext F96)).trans (Fr.ext F106)).trans (Fr.ext F120o)) (fun _ h=>h) (upc (.inr m77) (fun _ h=>.inl h)))) (IntKind.i64.wrap ((Int.tmod (IntKind.i64.wrap d2) (8:Int)) + (1:Int))) ((hL.fr E199).cons (((B88'.ex F96).ex F106).ex F120o).lt) (eq_ev hx128 (bufCheck_ev x124 d1 (IntKind.i64.wrap ((Int.tmod (IntKind.i64.wrap d2) (8:Int)) + (1:Int))) ha129 ha130))) (want_t (t:=65) rfl q65 (by rw [hx121]; exact hc116)) rfl ?_
          rintro _ w' ⟨F,rfl⟩
          exact eo_nil ⟨rfl,rfl,_,rfl,F,rfl⟩
         ·intro ρ w120o F120o hS hρ
          have q65:ρ 65=.bool (x121==(0:Int)):=hS 8 (by decide) 65 rfl
          have q70:ρ 70=.int .i64 x128:=hS 13 (by decide) 70 rfl
          exact o_v (r_int q70 rfl rfl) (want_t (t:=65) rfl q65 (by rw [hx121]; exact hc116)) rfl rfl (eo_nil ⟨rfl,rfl,_,rfl,Fr.refl _ _,rfl⟩)
         ·intro ρ w120o F120o hS hρ
          have q65:ρ 65=.bool (x121==(0:Int)):=hS 8 (by decide) 65 rfl
          have q71:ρ 71=.bool (x128==(0:Int)):=hS 14 (by decide) 71 rfl
          exact o_q (r_pickT q65 (by rw [hx121]; exact hc116) q71) ⟨Fr.refl _ _,rfl⟩
         ·intro ρ w120o F120o hS hρ
          have q72:ρ 72=.bool (x128==(0:Int)):=hS 15 (by decide) 72 rfl
          exact o_q (r_mov q72) ⟨Fr.refl _ _,rfl⟩
         ·intro ρ w120o F120o hS hρ
          have q6:ρ 6=.pointer (some ⟨b16,0,none⟩):=hρ 6 (by kernel_rfl)
          have q73:ρ 73=.bool (x128==(0:Int)):=hS 16 (by decide) 73 rfl
          exact o_v (r_lda agg_buffer_Buffer q6 (vs:=(cBuf d0 A1 c2)) rfl ((S16.fr (((G91.trans (Fr.ext F96)).trans (Fr.ext F106)).trans (Fr.ext F120o)) (fun _ h=>h)).now.part (n:=3) rfl)) (want_t (t:=73) rfl q73 (by rw [hx128]; exact (by rw [hx124]; exact hc117))) rfl rfl (eo_nil ⟨rfl,rfl,_,rfl,Fr.refl _ _,rfl⟩)
         ·intro ρ w120o F120o hS hρ
          have q7:ρ 7=.pointer (some ⟨b18,0,none⟩):=hρ 7 (by kernel_rfl)
          have q73:ρ 73=.bool (x128==(0:Int)):=hS 16 (by decide) 73 rfl
          exact o_v (r_lda agg_api_Arena q7 (vs:=(cArena d1 A4 c5 A7 c8)) rfl ((S18.fr (((G92.trans (Fr.ext F96)).trans (Fr.ext F106)).trans (Fr.ext F120o)) (fun _ h=>h)).now.part (n:=3) rfl)) (want_t (t:=73) rfl q73 (by rw [hx128]; exact (by rw [hx124]; exact hc117))) rfl rfl (eo_nil ⟨rfl,rfl,_,rfl,Fr.refl _ _,rfl⟩)
         ·intro ρ w120o F120o hS hρ
          have q15:ρ 15=.int .i64 (IntKind.i64.wrap ((Int.tmod (IntKind.i64.wrap d2) (8:Int)) + (1:Int))):=hρ 15 (by kernel_rfl)
          have q73:ρ 73=.bool (x128==(0:Int)):=hS 16 (by decide) 73 rfl
          exact o_v (r_mov q15) (want_t (t:=73) rfl q73 (by rw [hx128]; exact (by rw [hx124]; exact hc117))) rfl rfl (eo_nil ⟨rfl,rfl,_,rfl,Fr.refl _ _,rfl⟩)
         ·intro ρ w120o F120o hS hρ
          have q9:ρ 9=.pointer (some ⟨b22,0,none⟩):=hρ 9 (by kernel_rfl)
          have q73:ρ 73=.bool (x128==(0:Int)):=hS 16 (by decide) 73 rfl
          exact o_v (r_lda agg_api_Entry q9 (vs:=(cEnt d3 A10 c11 A13 c14)) rfl ((S22.fr (((G93.trans (Fr.ext F96)).trans (Fr.ext F106)).trans (Fr.ext F120o)) (fun _ h=>h)).now.part (n:=9) rfl)) (want_t (t:=73) rfl q73 (by rw [hx128]; exact (by rw [hx124]; exact hc117))) rfl rfl (eo_nil ⟨rfl,rfl,_,rfl,Fr.refl _ _,rfl⟩)
         ·intro ρ w120o F120o hS hρ
          have E227:=E108.trans F120o
          have q73:ρ 73=.bool (x128==(0:Int)):=hS 16 (by decide) 73 rfl
          have q74:ρ 74=.agg (cBuf d0 A1 c2).toArray:=hS 17 (by decide) 74 rfl
          have q75:ρ 75=.agg (cArena d1 A4 c5 A7 c8).toArray:=hS 18 (by decide) 75 rfl
          have q76:ρ 76=.int .i64 (IntKind.i64.wrap ((Int.tmod (IntKind.i64.wrap d2) (8:Int)) + (1:Int))):=hS 19 (by decide) 76 rfl
          have q77:ρ 77=.agg (cEnt d3 A10 c11 A13 c14).toArray:=hS 20 (by decide) 77 rfl
          refine o_call cf_buffer_Note (by simp only [List.map,ev,q74,q75,q76,q77] <;> rfl) (buffer_Note_c d0 (kBuf_mk (d:=d0) (H3.up (((G90.trans (Fr.ext F96)).trans (Fr.ext F106)).trans (Fr.ext F120o)) (fun _ h=>h) (upc (.inr m77) (fun _ h=>.inl h)))) d1 (kArena_mk (d:=d1) (H6.up (((G90.trans (Fr.ext F96)).trans (Fr.ext F106)).trans (Fr.ext F120o)) (fun _ h=>h) (upc (.inr m77) (fun _ h=>.inl h))) (H9.up (((G90.trans (Fr.ext F96)).trans (Fr.ext F106)).trans (Fr.ext F120o)) (fun _ h=>h) (upc (.inr m77) (fun _ h=>.inl h)))) (IntKind.i64.wrap ((Int.tmod (IntKind.i64.wrap d2) (8:Int)) + (1:Int))) d3 (kEnt_mk (d:=d3) (H12.up (((G90.trans (Fr.ext F96)).trans (Fr.ext F106)).trans (Fr.ext F120o)) (fun _ h=>h) (upc (.inr m77) (fun _ h=>.inl h))) (H15.up (((G90.trans (Fr.ext F96)).trans (Fr.ext F106)).trans (Fr.ext F120o)) (fun _ h=>h) (upc (.inr m77) (fun _ h=>.inl h)))) ((hL.fr E227).cons (((B88'.ex F96).ex F106).ex F120o).lt) (eq_ev hx131 (bufNote_ev d0 d1 (IntKind.i64.wrap ((Int.tmod (IntKind.i64.wrap d2) (8:Int)) + (1:Int))) d3 ha132 ha133))) (want_t (t:=73) rfl q73 (by rw [hx128]; exact (by rw [hx124]; exact hc117))) rfl ?_
          rintro _ w' ⟨F,cs234,rfl,H235⟩
          obtain ⟨A134,c135,rfl,H136⟩:=kBuf_open H235
          exact eo_nil ⟨rfl,rfl,_,rfl,F,⟨A134,c135,rfl,H136⟩⟩
         ·intro ρ w120o F120o hS hρ
          have q7:ρ 7=.pointer (some ⟨b18,0,none⟩):=hρ 7 (by kernel_rfl)
          have q73:ρ 73=.bool (x128==(0:Int)):=hS 16 (by decide) 73 rfl
          exact o_v (r_lda agg_api_Arena q7 (vs:=(cArena d1 A4 c5 A7 c8)) rfl ((S18.fr (((G92.trans (Fr.ext F96)).trans (Fr.ext F106)).trans (Fr.ext F120o)) (fun _ h=>h)).now.part (n:=3) rfl)) (want_t (t:=73) rfl q73 (by rw [hx128]; exact (by rw [hx124]; exact hc117))) rfl rfl (eo_nil ⟨rfl,rfl,_,rfl,Fr.refl _ _,rfl⟩)
         ·intro ρ w120o F120o hS hρ
          have q15:ρ 15=.int .i64 (IntKind.i64.wrap ((Int.tmod (IntKind.i64.wrap d2) (8:Int)) + (1:Int))):=hρ 15 (by kernel_rfl)
          have q73:ρ 73=.bool (x128==(0:Int)):=hS 16 (by decide) 73 rfl
          exact o_v (r_mov q15) (want_t (t:=73) rfl q73 (by rw [hx128]; exact (by rw [hx124]; exact hc117))) rfl rfl (eo_nil ⟨rfl,rfl,_,rfl,Fr.refl _ _,rfl⟩)
         ·intro ρ w120o F120o hS hρ
          have E243:=E108.trans F120o
          have q73:ρ 73=.bool (x128==(0:Int)):=hS 16 (by decide) 73 rfl
          obtain ⟨A134,c135,q78,H136⟩:=hS 21 (by decide) 78 rfl
          have q79:ρ 79=.agg (cArena d1 A4 c5 A7 c8).toArray:=hS 22 (by decide) 79 rfl
          have q80:ρ 80=.int .i64 (IntKind.i64.wrap ((Int.tmod (IntKind.i64.wrap d2) (8:Int)) + (1:Int))):=hS 23 (by decide) 80 rfl
          refine o_call cf_buffer_Check (by simp only [List.map,ev,q78,q79,q80] <;> rfl) (buffer_Check_c x131 (kBuf_mk (d:=x131) H136) d1 (kArena_mk (d:=d1) (H6.up (((G90.trans (Fr.ext F96)).trans (Fr.ext F106)).trans (Fr.ext F120o)) (fun _ h=>h) (upc (.inr m77) (fun _ h=>.inl h))) (H9.up (((G90.trans (Fr.ext F96)).trans (Fr.ext F106)).trans (Fr.ext F120o)) (fun _ h=>h) (upc (.inr m77) (fun _ h=>.inl h)))) (IntKind.i64.wrap ((Int.tmod (IntKind.i64.wrap d2) (8:Int)) + (1:Int))) ((hL.fr E243).cons (((B88'.ex F96).ex F106).ex F120o).lt) (eq_ev hx137 (bufCheck_ev x131 d1 (IntKind.i64.wrap ((Int.tmod (IntKind.i64.wrap d2) (8:Int)) + (1:Int))) ha138 ha139))) (want_t (t:=73) rfl q73 (by rw [hx128]; exact (by rw [hx124]; exact hc117))) rfl ?_
          rintro _ w' ⟨F,rfl⟩
          exact eo_nil ⟨rfl,rfl,_,rfl,F,rfl⟩
         ·intro ρ w120o F120o hS hρ
          have q73:ρ 73=.bool (x128==(0:Int)):=hS 16 (by decide) 73 rfl
          have q81:ρ 81=.int .i64 x137:=hS 24 (by decide) 81 rfl
          exact o_v (r_int q81 rfl rfl) (want_t (t:=73) rfl q73 (by rw [hx128]; exact (by rw [hx124]; exact hc117))) rfl rfl (eo_nil ⟨rfl,rfl,_,rfl,Fr.refl _ _,rfl⟩)
         ·intro ρ w120o F120o hS hρ
          have q73:ρ 73=.bool (x128==(0:Int)):=hS 16 (by decide) 73 rfl
          have q82:ρ 82=.bool (x137==(0:Int)):=hS 25 (by decide) 82 rfl
          exact o_q (r_pickT q73 (by rw [hx128]; exact (by rw [hx124]; exact hc117)) q82) ⟨Fr.refl _ _,rfl⟩
         ·intro ρ w120o F120o hS hρ
          have q83:ρ 83=.bool (x137==(0:Int)):=hS 26 (by decide) 83 rfl
          exact o_q (r_mov q83) ⟨Fr.refl _ _,rfl⟩
         ·intro ρ w120o F120o hS hρ
          have q6:ρ 6=.pointer (some ⟨b16,0,none⟩):=hρ 6 (by kernel_rfl)
          have q84:ρ 84=.bool (x137==(0:Int)):=hS 27 (by decide) 84 rfl
          exact o_v (r_lda agg_buffer_Buffer q6 (vs:=(cBuf d0 A1 c2)) rfl ((S16.fr (((G91.trans (Fr.ext F96)).trans (Fr.ext F106)).trans (Fr.ext F120o)) (fun _ h=>h)).now.part (n:=3) rfl)) (want_t (t:=84) rfl q84 (by rw [hx137]; exact (by rw [hx131]; exact hc118))) rfl rfl (eo_nil ⟨rfl,rfl,_,rfl,Fr.refl _ _,rfl⟩)
         ·intro ρ w120o F120o hS hρ
          have q7:ρ 7=.pointer (some ⟨b18,0,none⟩):=hρ 7 (by kernel_rfl)
          have q84:ρ 84=.bool (x137==(0:Int)):=hS 27 (by decide) 84 rfl
          exact o_v (r_lda agg_api_Arena q7 (vs:=(cArena d1 A4 c5 A7 c8)) rfl ((S18.fr (((G92.trans (Fr.ext F96)).trans (Fr.ext F106)).trans (Fr.ext F120o)) (fun _ h=>h)).now.part (n:=3) rfl)) (want_t (t:=84) rfl q84 (by rw [hx137]; exact (by rw [hx131]; exact hc118))) rfl rfl (eo_nil ⟨rfl,rfl,_,rfl,Fr.refl _ _,rfl⟩)
         ·intro ρ w120o F120o hS hρ
          have q15:ρ 15=.int .i64 (IntKind.i64.wrap ((Int.tmod (IntKind.i64.wrap d2) (8:Int)) + (1:Int))):=hρ 15 (by kernel_rfl)
          have q84:ρ 84=.bool (x137==(0:Int)):=hS 27 (by decide) 84 rfl
          exact o_v (r_mov q15) (want_t (t:=84) rfl q84 (by rw [hx137]; exact (by rw [hx131]; exact hc118))) rfl rfl (eo_nil ⟨rfl,rfl,_,rfl,Fr.refl _ _,rfl⟩)
         ·intro ρ w120o F120o hS hρ
          have q4:ρ 4=.int .i64 d4:=hρ 4 (by kernel_rfl)
          have q84:ρ 84=.bool (x137==(0:Int)):=hS 27 (by decide) 84 rfl
          exact o_v (r_mov q4) (want_t (t:=84) rfl q84 (by rw [hx137]; exact (by rw [hx131]; exact hc118))) rfl rfl (eo_nil ⟨rfl,rfl,_,rfl,Fr.refl _ _,rfl⟩)
         ·intro ρ w120o F120o hS hρ
          have q5:ρ 5=.int .i64 d5:=hρ 5 (by kernel_rfl)
          have q84:ρ 84=.bool (x137==(0:Int)):=hS 27 (by decide) 84 rfl
          exact o_v (r_mov q5) (want_t (t:=84) rfl q84 (by rw [hx137]; exact (by rw [hx131]; exact hc118))) rfl rfl (eo_nil ⟨rfl,rfl,_,rfl,Fr.refl _ _,rfl⟩)
         ·intro ρ w120o F120o hS hρ
          have E264:=E108.trans F120o
          have q84:ρ 84=.bool (x137==(0:Int)):=hS 27 (by decide) 84 rfl
          have q85:ρ 85=.agg (cBuf d0 A1 c2).toArray:=hS 28 (by decide) 85 rfl
          have q86:ρ 86=.agg (cArena d1 A4 c5 A7 c8).toArray:=hS 29 (by decide) 86 rfl
          have q87:ρ 87=.int .i64 (IntKind.i64.wrap ((Int.tmod (IntKind.i64.wrap d2) (8:Int)) + (1:Int))):=hS 30 (by decide) 87 rfl
          have q88:ρ 88=.int .i64 d4:=hS 31 (by decide) 88 rfl
          have q89:ρ 89=.int .i64 d5:=hS 32 (by decide) 89 rfl
          refine o_call cf_buffer_Ack (by simp only [List.map,ev,q85,q86,q87,q88,q89] <;> rfl) (buffer_Ack_c d0 (kBuf_mk (d:=d0) (H3.up (((G90.trans (Fr.ext F96)).trans (Fr.ext F106)).trans (Fr.ext F120o)) (fun _ h=>h) (upc (.inr m77) (fun _ h=>.inl h)))) d1 (kArena_mk (d:=d1) (H6.up (((G90.trans (Fr.ext F96)).trans (Fr.ext F106)).trans (Fr.ext F120o)) (fun _ h=>h) (upc (.inr m77) (fun _ h=>.inl h))) (H9.up (((G90.trans (Fr.ext F96)).trans (Fr.ext F106)).trans (Fr.ext F120o)) (fun _ h=>h) (upc (.inr m77) (fun _ h=>.inl h)))) (IntKind.i64.wrap ((Int.tmod (IntKind.i64.wrap d2) (8:Int)) + (1:Int))) d4 d5 ((hL.fr E264).cons (((B88'.ex F96).ex F106).ex F120o).lt) (eq_ev hx140 (bufAck_ev d0 d1 (IntKind.i64.wrap ((Int.tmod (IntKind.i64.wrap d2) (8:Int)) + (1:Int))) d4 d5 ha141 ha142))) (want_t (t:=84) rfl q84 (by rw [hx137]; exact (by rw [hx131]; exact hc118))) rfl ?_
          rintro _ w' ⟨F,cs271,rfl,H272⟩
          obtain ⟨A143,c144,rfl,H145⟩:=kBuf_open H272
          exact eo_nil ⟨rfl,rfl,_,rfl,F,⟨A143,c144,rfl,H145⟩⟩
         ·intro ρ w120o F120o hS hρ
          have q7:ρ 7=.pointer (some ⟨b18,0,none⟩):=hρ 7 (by kernel_rfl)
          have q84:ρ 84=.bool (x137==(0:Int)):=hS 27 (by decide) 84 rfl
          exact o_v (r_lda agg_api_Arena q7 (vs:=(cArena d1 A4 c5 A7 c8)) rfl ((S18.fr (((G92.trans (Fr.ext F96)).trans (Fr.ext F106)).trans (Fr.ext F120o)) (fun _ h=>h)).now.part (n:=3) rfl)) (want_t (t:=84) rfl q84 (by rw [hx137]; exact (by rw [hx131]; exact hc118))) rfl rfl (eo_nil ⟨rfl,rfl,_,rfl,Fr.refl _ _,rfl⟩)
         ·intro ρ w120o F120o hS hρ
          have q15:ρ 15=.int .i64 (IntKind.i64.wrap ((Int.tmod (IntKind.i64.wrap d2) (8:Int)) + (1:Int))):=hρ 15 (by kernel_rfl)
          have q84:ρ 84=.bool (x137==(0:Int)):=hS 27 (by decide) 84 rfl
          exact o_v (r_mov q15) (want_t (t:=84) rfl q84 (by rw [hx137]; exact (by rw [hx131]; exact hc118))) rfl rfl (eo_nil ⟨rfl,rfl,_,rfl,Fr.refl _ _,rfl⟩)
         ·intro ρ w120o F120o hS hρ
          have E280:=E108.trans F120o
          have q84:ρ 84=.bool (x137==(0:Int)):=hS 27 (by decide) 84 rfl
          obtain ⟨A143,c144,q90,H145⟩:=hS 33 (by decide) 90 rfl
          have q91:ρ 91=.agg (cArena d1 A4 c5 A7 c8).toArray:=hS 34 (by decide) 91 rfl
          have q92:ρ 92=.int .i64 (IntKind.i64.wrap ((Int.tmod (IntKind.i64.wrap d2) (8:Int)) + (1:Int))):=hS 35 (by decide) 92 rfl
          refine o_call cf_buffer_Check (by simp only [List.map,ev,q90,q91,q92] <;> rfl) (buffer_Check_c x140 (kBuf_mk (d:=x140) H145) d1 (kArena_mk (d:=d1) (H6.up (((G90.trans (Fr.ext F96)).trans (Fr.ext F106)).trans (Fr.ext F120o)) (fun _ h=>h) (upc (.inr m77) (fun _ h=>.inl h))) (H9.up (((G90.trans (Fr.ext F96)).trans (Fr.ext F106)).trans (Fr.ext F120o)) (fun _ h=>h) (upc (.inr m77) (fun _ h=>.inl h)))) (IntKind.i64.wrap ((Int.tmod (IntKind.i64.wrap d2) (8:Int)) + (1:Int))) ((hL.fr E280).cons (((B88'.ex F96).ex F106).ex F120o).lt) (eq_ev hx146 (bufCheck_ev x140 d1 (IntKind.i64.wrap ((Int.tmod (IntKind.i64.wrap d2) (8:Int)) + (1:Int))) ha147 ha148))) (want_t (t:=84) rfl q84 (by rw [hx137]; exact (by rw [hx131]; exact hc118))) rfl ?_
          rintro _ w' ⟨F,rfl⟩
          exact eo_nil ⟨rfl,rfl,_,rfl,F,rfl⟩
         ·intro ρ w120o F120o hS hρ
          have q84:ρ 84=.bool (x137==(0:Int)):=hS 27 (by decide) 84 rfl
          have q93:ρ 93=.int .i64 x146:=hS 36 (by decide) 93 rfl
          exact o_v (r_int q93 rfl rfl) (want_t (t:=84) rfl q84 (by rw [hx137]; exact (by rw [hx131]; exact hc118))) rfl rfl (eo_nil ⟨rfl,rfl,_,rfl,Fr.refl _ _,rfl⟩)
         ·intro ρ w120o F120o hS hρ
          have q84:ρ 84=.bool (x137==(0:Int)):=hS 27 (by decide) 84 rfl
          have q94:ρ 94=.bool (x146==(0:Int)):=hS 37 (by decide) 94 rfl
          exact o_q (r_pickT q84 (by rw [hx137]; exact (by rw [hx131]; exact hc118)) q94) ⟨Fr.refl _ _,rfl⟩
         ·intro ρ w120o F120o hS hρ
          have q95:ρ 95=.bool (x146==(0:Int)):=hS 38 (by decide) 95 rfl
          exact o_q (r_mov q95) ⟨Fr.refl _ _,rfl⟩
         ·intro ρ w120o F120o hS hρ
          have q6:ρ 6=.pointer (some ⟨b16,0,none⟩):=hρ 6 (by kernel_rfl)
          have q96:ρ 96=.bool (x146==(0:Int)):=hS 39 (by decide) 96 rfl
          exact o_v (r_lda agg_buffer_Buffer q6 (vs:=(cBuf d0 A1 c2)) rfl ((S16.fr (((G91.trans (Fr.ext F96)).trans (Fr.ext F106)).trans (Fr.ext F120o)) (fun _ h=>h)).now.part (n:=3) rfl)) (want_t (t:=96) rfl q96 (by rw [hx146]; exact (by rw [hx140]; exact hc119))) rfl rfl (eo_nil ⟨rfl,rfl,_,rfl,Fr.refl _ _,rfl⟩)
         ·intro ρ w120o F120o hS hρ
          have q7:ρ 7=.pointer (some ⟨b18,0,none⟩):=hρ 7 (by kernel_rfl)
          have q96:ρ 96=.bool (x146==(0:Int)):=hS 39 (by decide) 96 rfl
          exact o_v (r_lda agg_api_Arena q7 (vs:=(cArena d1 A4 c5 A7 c8)) rfl ((S18.fr (((G92.trans (Fr.ext F96)).trans (Fr.ext F106)).trans (Fr.ext F120o)) (fun _ h=>h)).now.part (n:=3) rfl)) (want_t (t:=96) rfl q96 (by rw [hx146]; exact (by rw [hx140]; exact hc119))) rfl rfl (eo_nil ⟨rfl,rfl,_,rfl,Fr.refl _ _,rfl⟩)
         ·intro ρ w120o F120o hS hρ
          have q15:ρ 15=.int .i64 (IntKind.i64.wrap ((Int.tmod (IntKind.i64.wrap d2) (8:Int)) + (1:Int))):=hρ 15 (by kernel_rfl)
          have q96:ρ 96=.bool (x146==(0:Int)):=hS 39 (by decide) 96 rfl
          exact o_v (r_mov q15) (want_t (t:=96) rfl q96 (by rw [hx146]; exact (by rw [hx140]; exact hc119))) rfl rfl (eo_nil ⟨rfl,rfl,_,rfl,Fr.refl _ _,rfl⟩)
         ·intro ρ w120o F120o hS hρ
          have q5:ρ 5=.int .i64 d5:=hρ 5 (by kernel_rfl)
          have q96:ρ 96=.bool (x146==(0:Int)):=hS 39 (by decide) 96 rfl
          exact o_v (r_mov q5) (want_t (t:=96) rfl q96 (by rw [hx146]; exact (by rw [hx140]; exact hc119))) rfl rfl (eo_nil ⟨rfl,rfl,_,rfl,Fr.refl _ _,rfl⟩)
         ·intro ρ w120o F120o hS hρ
          have E301:=E108.trans F120o
          have q96:ρ 96=.bool (x146==(0:Int)):=hS 39 (by decide) 96 rfl
          have q97:ρ 97=.agg (cBuf d0 A1 c2).toArray:=hS 40 (by decide) 97 rfl
          have q98:ρ 98=.agg (cArena d1 A4 c5 A7 c8).toArray:=hS 41 (by decide) 98 rfl
          have q99:ρ 99=.int .i64 (IntKind.i64.wrap ((Int.tmod (IntKind.i64.wrap d2) (8:Int)) + (1:Int))):=hS 42 (by decide) 99 rfl
          have q100:ρ 100=.int .i64 d5:=hS 43 (by decide) 100 rfl
          refine o_call cf_buffer_Some (by simp only [List.map,ev,q97,q98,q99,q100] <;> rfl) (buffer_Some_c d0 (kBuf_mk (d:=d0) (H3.up (((G90.trans (Fr.ext F96)).trans (Fr.ext F106)).trans (Fr.ext F120o)) (fun _ h=>h) (upc (.inr m77) (fun _ h=>.inl h)))) d1 (kArena_mk (d:=d1) (H6.up (((G90.trans (Fr.ext F96)).trans (Fr.ext F106)).trans (Fr.ext F120o)) (fun _ h=>h) (upc (.inr m77) (fun _ h=>.inl h))) (H9.up (((G90.trans (Fr.ext F96)).trans (Fr.ext F106)).trans (Fr.ext F120o)) (fun _ h=>h) (upc (.inr m77) (fun _ h=>.inl h)))) (IntKind.i64.wrap ((Int.tmod (IntKind.i64.wrap d2) (8:Int)) + (1:Int))) d5 ((hL.fr E301).cons (((B88'.ex F96).ex F106).ex F120o).lt) (eq_ev hx149 (bufSome_ev d0 d1 (IntKind.i64.wrap ((Int.tmod (IntKind.i64.wrap d2) (8:Int)) + (1:Int))) d5 ha150 ha151))) (want_t (t:=96) rfl q96 (by rw [hx146]; exact (by rw [hx140]; exact hc119))) rfl ?_
          rintro _ w' ⟨F,A152,c153,rfl,H154⟩
          exact eo_nil ⟨rfl,rfl,_,rfl,F,⟨A152,c153,rfl,H154⟩⟩
         ·intro ρ w120o F120o hS hρ
          have q96:ρ 96=.bool (x146==(0:Int)):=hS 39 (by decide) 96 rfl
          obtain ⟨A152,c153,q101,H154⟩:=hS 44 (by decide) 101 rfl
          exact o_v (r_len_slc un_s_api_Entry q101) (want_t (t:=96) rfl q96 (by rw [hx146]; exact (by rw [hx140]; exact hc119))) rfl rfl (eo_nil ⟨rfl,rfl,_,rfl,Fr.refl _ _,rfl⟩)
         ·intro ρ w120o F120o hS hρ
          have q15:ρ 15=.int .i64 (IntKind.i64.wrap ((Int.tmod (IntKind.i64.wrap d2) (8:Int)) + (1:Int))):=hρ 15 (by kernel_rfl)
          have q96:ρ 96=.bool (x146==(0:Int)):=hS 39 (by decide) 96 rfl
          exact o_v (r_mov q15) (want_t (t:=96) rfl q96 (by rw [hx146]; exact (by rw [hx140]; exact hc119))) rfl rfl (eo_nil ⟨rfl,rfl,_,rfl,Fr.refl _ _,rfl⟩)
         ·intro ρ w120o F120o hS hρ
          have q96:ρ 96=.bool (x146==(0:Int)):=hS 39 (by decide) 96 rfl
          have q102:ρ 102=.int .i64 (x149.length:Int):=hS 45 (by decide) 102 rfl
          have q103:ρ 103=.int .i64 (IntKind.i64.wrap ((Int.tmod (IntKind.i64.wrap d2) (8:Int)) + (1:Int))):=hS 46 (by decide) 103 rfl
          exact o_v (r_int q102 q103 rfl) (want_t (t:=96) rfl q96 (by rw [hx146]; exact (by rw [hx140]; exact hc119))) rfl rfl (eo_nil ⟨rfl,rfl,_,rfl,Fr.refl _ _,rfl⟩)
         ·intro ρ w120o F120o hS hρ
          have q96:ρ 96=.bool (x146==(0:Int)):=hS 39 (by decide) 96 rfl
          have q104:ρ 104=.bool (decide ((x149.length:Int)≤(IntKind.i64.wrap ((Int.tmod (IntKind.i64.wrap d2) (8:Int)) + (1:Int))))):=hS 47 (by decide) 104 rfl
          exact o_q (r_pickT q96 (by rw [hx146]; exact (by rw [hx140]; exact hc119)) q104) ⟨Fr.refl _ _,rfl⟩
         ·intro ρ w120o F120o hS hρ
          have q105:ρ 105=.bool (decide ((x149.length:Int)≤(IntKind.i64.wrap ((Int.tmod (IntKind.i64.wrap d2) (8:Int)) + (1:Int))))):=hS 48 (by decide) 105 rfl
          exact o_q (r_asg q105) ⟨Fr.refl _ _,rfl⟩
        ·intro ρ w120 F120 hS hρ
         have q12:ρ 12=.bool (decide ((x149.length:Int)≤(IntKind.i64.wrap ((Int.tmod (IntKind.i64.wrap d2) (8:Int)) + (1:Int))))):=hS 49 12 rfl
         obtain ⟨ρ',rfl⟩:∃ ρ',ρ=envs (ovr [12,57,58,59,60,61,62,63,64,65,66,67,68,69,70,71,72,73,74,75,76,77,78,79,80,81,82,83,84,85,86,87,88,89,90,91,92,93,94,95,96,97,98,99,100,101,102,103,104,105] ρ' _) [(12,.bool (decide ((x149.length:Int)≤(IntKind.i64.wrap ((Int.tmod (IntKind.i64.wrap d2) (8:Int)) + (1:Int))))))]:=⟨ρ,ovr_self hρ ⟨q12,trivial⟩⟩
         have E308:=E108.trans F120
         refine sq_n ?_
         refine ec_ret ?_
         subst h
         exact (end1 rfl ⟨_,rfl,E308,rfl⟩)
       ·replace h:=h.2 hc119
        obtain ⟨ha317,h⟩:=h
        obtain ⟨ha318,h⟩:=h
        obtain ⟨x316,hx316,h⟩:=h
        obtain ⟨x319,hx319,h⟩:=h
        obtain ⟨ha324,h⟩:=h
        obtain ⟨ha325,h⟩:=h
        obtain ⟨x323,hx323,h⟩:=h
        obtain ⟨ha327,h⟩:=h
        obtain ⟨ha328,h⟩:=h
        obtain ⟨x326,hx326,h⟩:=h
        obtain ⟨ha333,h⟩:=h
        obtain ⟨ha334,h⟩:=h
        obtain ⟨x332,hx332,h⟩:=h
        obtain ⟨ha336,h⟩:=h
        obtain ⟨ha337,h⟩:=h
        obtain ⟨x335,hx335,h⟩:=h
        obtain ⟨ha342,h⟩:=h
        obtain ⟨ha343,h⟩:=h
        obtain ⟨x341,hx341,h⟩:=h
        refine ec_any0 (by kernel_rfl) [[],[0],[0,1],[0,1],[0,1],[0,1,2,3,4],[0,1,2,3,4,5],[0,1,2,3,4,5,6],[0,1,2,3,4,5,6,7],[0,1,2,3,4,5,6,7,8],[0,1,2,3,4,5,6,7,8,9],[0,1,2,3,4,5,6,7,8],[0,1,2,3,4,5,6,7,8],[0,1,2,3,4,5,6,7,8,9,10,11,12],[0,1,2,3,4,5,6,7,8,9,10,11,12,13],[0,1,2,3,4,5,6,7,8,9,10,11,12,13,14],[0,1,2,3,4,5,6,7,8,9,10,11,12,13,14,15],[0,1,2,3,4,5,6,7,8,9,10,11,12,13,14,15,16],[0,1,2,3,4,5,6,7,8,9,10,11,12,13,14,15,16],[0,1,2,3,4,5,6,7,8,9,10,11,12,13,14,15,16],[0,1,2,3,4,5,6,7,8,9,10,11,12,13,14,15,16],[0,1,2,3,4,5,6,7,8,9,10,11,12,13,14,15,16,17,18,19,20],[0,1,2,3,4,5,6,7,8,9,10,11,12,13,14,15,16],[0,1,2,3,4,5,6,7,8,9,10,11,12,13,14,15,16],[0,1,2,3,4,5,6,7,8,9,10,11,12,13,14,15,16,17,18,19,20,21,22,23],[0,1,2,3,4,5,6,7,8,9,10,11,12,13,14,15,16,17,18,19,20,21,22,23,24],[0,1,2,3,4,5,6,7,8,9,10,11,12,13,14,15,16,17,18,19,20,21,22,23,24,25],[0,1,2,3,4,5,6,7,8,9,10,11,12,13,14,15,16,17,18,19,20,21,22,23,24,25,26],[0,1,2,3,4,5,6,7,8,9,10,11,12,13,14,15,16,17,18,19,20,21,22,23,24,25,26,27],[0,1,2,3,4,5,6,7,8,9,10,11,12,13,14,15,16,17,18,19,20,21,22,23,24,25,26,27],[0,1,2,3,4,5,6,7,8,9,10,11,12,13,14,15,16,17,18,19,20,21,22,23,24,25,26,27],[0,1,2,3,4,5,6,7,8,9,10,11,12,13,14,15,16,17,18,19,20,21,22,23,24,25,26,27],[0,1,2,3,4,5,6,7,8,9,10,11,12,13,14,15,16,17,18,19,20,21,22,23,24,25,26,27],[0,1,2,3,4,5,6,7,8,9,10,11,12,13,14,15,16,17,18,19,20,21,22,23,24,25,26,27,28,29,30,31,32],[0,1,2,3,4,5,6,7,8,9,10,11,12,13,14,15,16,17,18,19,20,21,22,23,24,25,26,27],[0,1,2,3,4,5,6,7,8,9,10,11,12,13,14,15,16,17,18,19,20,21,22,23,24,25,26,27],[0,1,2,3,4,5,6,7,8,9,10,11,12,13,14,15,16,17,18,19,20,21,22,23,24,25,26,27,28,29,30,31,32,33,34,35],[0,1,2,3,4,5,6,7,8,9,10,11,12,13,14,15,16,17,18,19,20,21,22,23,24,25,26,27,28,29,30,31,32,33,34,35,36],[0,1,2,3,4,5,6,7,8,9,10,11,12,13,14,15,16,17,18,19,20,21,22,23,24,25,26,27,28,29,30,31,32,33,34,35,36,37],[0,1,2,3,4,5,6,7,8,9,10,11,12,13,14,15,16,17,18,19,20,21,22,23,24,25,26,27,28,29,30,31,32,33,34,35,36,37,38],[0,1,2,3,4,5,6,7,8,9,10,11,12,13,14,15,16,17,18,19,20,21,22,23,24,25,26,27,28,29,30,31,32,33,34,35,36,37,38,39],[0,1,2,3,4,5,6,7,8,9,10,11,12,13,14,15,16,17,18,19,20,21,22,23,24,25,26,27,28,29,30,31,32,33,34,35,36,37,38,39],[0,1,2,3,4,5,6,7,8,9,10,11,12,13,14,15,16,17,18,19,20,21,22,23,24,25,26,27,28,29,30,31,32,33,34,35,36,37,38,39],[0,1,2,3,4,5,6,7,8,9,10,11,12,13,14,15,16,17,18,19,20,21,22,23,24,25,26,27,28,29,30,31,32,33,34,35,36,37,38,39],[0,1,2,3,4,5,6,7,8,9,10,11,12,13,14,15,16,17,18,19,20,21,22,23,24,25,26,27,28,29,30,31,32,33,34,35,36,37,38,39,40,41,42,43],[0,1,2,3,4,5,6,7,8,9,10,11,12,13,14,15,16,17,18,19,20,21,22,23,24,25,26,27,28,29,30,31,32,33,34,35,36,37,38,39,40,41,42,43,44],[0,1,2,3,4,5,6,7,8,9,10,11,12,13,14,15,16,17,18,19,20,21,22,23,24,25,26,27,28,29,30,31,32,33,34,35,36,37,38,39],[0,1,2,3,4,5,6,7,8,9,10,11,12,13,14,15,16,17,18,19,20,21,22,23,24,25,26,27,28,29,30,31,32,33,34,35,36,37,38,39,40,41,42,43,44,45,46],[0,1,2,3,4,5,6,7,8,9,10,11,12,13,14,15,16,17,18,19,20,21,22,23,24,25,26,27,28,29,30,31,32,33,34,35,36,37,38,39,40,41,42,43,44,45,46,47],[0,1,2,3,4,5,6,7,8,9,10,11,12,13,14,15,16,17,18,19,20,21,22,23,24,25,26,27,28,29,30,31,32,33,34,35,36,37,38,39,40,41,42,43,44,45,46,47,48]] [12,57,58,59,60,61,62,63,64,65,66,67,68,69,70,71,72,73,74,75,76,77,78,79,80,81,82,83,84,85,86,87,88,89,90,91,92,93,94,95,96,97,98,99,100,101,102,103,104,105] [fun v _=>v=(.bool (worksV):Value),fun v _=>v=(.bool (worksV):Value),fun v _=>v=(.agg (cBuf x63 A73 c74).toArray:Value),fun v _=>v=(.agg (cArena d1 A4 c5 A7 c8).toArray:Value),fun v _=>v=(.int .i64 (IntKind.i64.wrap ((Int.tmod (IntKind.i64.wrap d2) (8:Int)) + (1:Int))):Value),fun v _=>v=(.int .i64 x316:Value),fun v _=>v=(.bool (x316==(0:Int)):Value),fun v _=>v=(.bool (x316==(0:Int)):Value),fun v _=>v=(.bool (x316==(0:Int)):Value),fun v _=>v=(.agg (cBuf d0 A1 c2).toArray:Value),fun v w'=>∃ A320 c321,v=(.agg (cBuf x319 A320 c321).toArray:Value)∧Stb (b76::L) w' (fun w=>SlC kNm w A320 c321 x319.names),fun v _=>v=(.agg (cArena d1 A4 c5 A7 c8).toArray:Value),fun v _=>v=(.int .i64 (IntKind.i64.wrap ((Int.tmod (IntKind.i64.wrap d2) (8:Int)) + (1:Int))):Value),fun v _=>v=(.int .i64 x323:Value),fun v _=>v=(.bool (x323==(0:Int)):Value),fun v _=>v=(.bool (x323==(0:Int)):Value),fun v _=>v=(.bool (x323==(0:Int)):Value),fun v _=>v=(.agg (cBuf d0 A1 c2).toArray:Value),fun v _=>v=(.agg (cArena d1 A4 c5 A7 c8).toArray:Value),fun v _=>v=(.int .i64 (IntKind.i64.wrap ((Int.tmod (IntKind.i64.wrap d2) (8:Int)) + (1:Int))):Value),fun v _=>v=(.agg (cEnt d3 A10 c11 A13 c14).toArray:Value),fun v w'=>∃ A329 c330,v=(.agg (cBuf x326 A329 c330).toArray:Value)∧Stb (b76::L) w' (fun w=>SlC kNm w A329 c330 x326.names),fun v _=>v=(.agg (cArena d1 A4 c5 A7 c8).toArray:Value),fun v _=>v=(.int .i64 (IntKind.i64.wrap ((Int.tmod (IntKind.i64.wrap d2) (8:Int)) + (1:Int))):Value),fun v _=>v=(.int .i64 x332:Value),fun v _=>v=(.bool (x332==(0:Int)):Value),fun v _=>v=(.bool (x332==(0:Int)):Value),fun v _=>v=(.bool (x332==(0:Int)):Value),fun v _=>v=(.agg (cBuf d0 A1 c2).toArray:Value),fun v _=>v=(.agg (cArena d1 A4 c5 A7 c8).toArray:Value),fun v _=>v=(.int .i64 (IntKind.i64.wrap ((Int.tmod (IntKind.i64.wrap d2) (8:Int)) + (1:Int))):Value),fun v _=>v=(.int .i64 d4:Value),fun v _=>v=(.int .i64 d5:Value),fun v w'=>∃ A338 c339,v=(.agg (cBuf x335 A338 c339).toArray:Value)∧Stb (b76::L) w' (fun w=>SlC kNm w A338 c339 x335.names),fun v _=>v=(.agg (cArena d1 A4 c5 A7 c8).toArray:Value),fun v _=>v=(.int .i64 (IntKind.i64.wrap ((Int.tmod (IntKind.i64.wrap d2) (8:Int)) + (1:Int))):Value),fun v _=>v=(.int .i64 x341:Value),fun v _=>v=(.bool (x341==(0:Int)):Value),fun v _=>v=(.bool (x341==(0:Int)):Value),fun v _=>v=(.bool (x341==(0:Int)):Value),fun v _=>v=((undef:Value):Value),fun v _=>v=((undef:Value):Value),fun v _=>v=((undef:Value):Value),fun v _=>v=((undef:Value):Value),fun v _=>v=((undef:Value):Value),fun v _=>v=((undef:Value):Value),fun v _=>v=((undef:Value):Value),fun v _=>v=((undef:Value):Value),fun v _=>v=(.bool false:Value),fun v _=>v=(.bool false:Value)] (by kernel_rfl) ⟨fun _ _ _ _ _ h=>h,fun _ _ _ _ _ h=>h,fun _ _ _ _ _ h=>h,fun _ _ _ _ _ h=>h,fun _ _ _ _ _ h=>h,fun _ _ _ _ _ h=>h,fun _ _ _ _ _ h=>h,fun _ _ _ _ _ h=>h,fun _ _ _ _ _ h=>h,fun _ _ _ _ _ h=>h,fun _ v w' w'' F h=>by obtain ⟨A320,c321,hv,H322⟩:=h; exact ⟨A320,c321,hv,(H322.ex F)⟩,fun _ _ _ _ _ h=>h,fun _ _ _ _ _ h=>h,fun _ _ _ _ _ h=>h,fun _ _ _ _ _ h=>h,fun _ _ _ _ _ h=>h,fun _ _ _ _ _ h=>h,fun _ _ _ _ _ h=>h,fun _ _ _ _ _ h=>h,fun _ _ _ _ _ h=>h,fun _ _ _ _ _ h=>h,fun _ v w' w'' F h=>by obtain ⟨A329,c330,hv,H331⟩:=h; exact ⟨A329,c330,hv,(H331.ex F)⟩,fun _ _ _ _ _ h=>h,fun _ _ _ _ _ h=>h,fun _ _ _ _ _ h=>h,fun _ _ _ _ _ h=>h,fun _ _ _ _ _ h=>h,fun _ _ _ _ _ h=>h,fun _ _ _ _ _ h=>h,fun _ _ _ _ _ h=>h,fun _ _ _ _ _ h=>h,fun _ _ _ _ _ h=>h,fun _ _ _ _ _ h=>h,fun _ v w' w'' F h=>by obtain ⟨A338,c339,hv,H340⟩:=h; exact ⟨A338,c339,hv,(H340.ex F)⟩,fun _ _ _ _ _ h=>h,fun _ _ _ _ _ h=>h,fun _ _ _ _ _ h=>h,fun _ _ _ _ _ h=>h,fun _ _ _ _ _ h=>h,fun _ _ _ _ _ h=>h,fun _ _ _ _ _ h=>h,fun _ _ _ _ _ h=>h,fun _ _ _ _ _ h=>h,fun _ _ _ _ _ h=>h,fun _ _ _ _ _ h=>h,fun _ _ _ _ _ h=>h,fun _ _ _ _ _ h=>h,fun _ _ _ _ _ h=>h,fun _ _ _ _ _ h=>h,fun _ _ _ _ _ h=>h,trivial⟩ ?_ ?_
        ·refine ⟨?_,?_,?_,?_,?_,?_,?_,?_,?_,?_,?_,?_,?_,?_,?_,?_,?_,?_,?_,?_,?_,?_,?_,?_,?_,?_,?_,?_,?_,?_,?_,?_,?_,?_,?_,?_,?_,?_,?_,?_,?_,?_,?_,?_,?_,?_,?_,?_,?_,?_,trivial⟩
         ·intro ρ w315o F315o hS hρ
          have q13:ρ 13=.bool (worksV):=hρ 13 (by kernel_rfl)
          exact o_q (r_mov q13) ⟨Fr.refl _ _,rfl⟩
         ·intro ρ w315o F315o hS hρ
          have q57:ρ 57=.bool (worksV):=hS 0 (by decide) 57 rfl
          exact o_q (r_mov q57) ⟨Fr.refl _ _,rfl⟩
         ·intro ρ w315o F315o hS hρ
          have q16:ρ 16=.pointer (some ⟨b76,0,none⟩):=hρ 16 (by kernel_rfl)
          have q58:ρ 58=.bool (worksV):=hS 1 (by decide) 58 rfl
          exact o_v (r_lda agg_buffer_Buffer q16 (vs:=(cBuf x63 A73 c74)) rfl ((((B88'.ex F96).ex F106).ex F315o).part (n:=3) rfl)) (want_t (t:=58) rfl q58 (of_not hc33)) rfl rfl (eo_nil ⟨rfl,rfl,_,rfl,Fr.refl _ _,rfl⟩)
         ·intro ρ w315o F315o hS hρ
          have q7:ρ 7=.pointer (some ⟨b18,0,none⟩):=hρ 7 (by kernel_rfl)
          have q58:ρ 58=.bool (worksV):=hS 1 (by decide) 58 rfl
          exact o_v (r_lda agg_api_Arena q7 (vs:=(cArena d1 A4 c5 A7 c8)) rfl ((S18.fr (((G92.trans (Fr.ext F96)).trans (Fr.ext F106)).trans (Fr.ext F315o)) (fun _ h=>h)).now.part (n:=3) rfl)) (want_t (t:=58) rfl q58 (of_not hc33)) rfl rfl (eo_nil ⟨rfl,rfl,_,rfl,Fr.refl _ _,rfl⟩)
         ·intro ρ w315o F315o hS hρ
          have q15:ρ 15=.int .i64 (IntKind.i64.wrap ((Int.tmod (IntKind.i64.wrap d2) (8:Int)) + (1:Int))):=hρ 15 (by kernel_rfl)
          have q58:ρ 58=.bool (worksV):=hS 1 (by decide) 58 rfl
          exact o_v (r_mov q15) (want_t (t:=58) rfl q58 (of_not hc33)) rfl rfl (eo_nil ⟨rfl,rfl,_,rfl,Fr.refl _ _,rfl⟩)
         ·intro ρ w315o F315o hS hρ
          have E358:=E108.trans F315o
          have q58:ρ 58=.bool (worksV):=hS 1 (by decide) 58 rfl
          have q59:ρ 59=.agg (cBuf x63 A73 c74).toArray:=hS 2 (by decide) 59 rfl
          have q60:ρ 60=.agg (cArena d1 A4 c5 A7 c8).toArray:=hS 3 (by decide) 60 rfl
          have q61:ρ 61=.int .i64 (IntKind.i64.wrap ((Int.tmod (IntKind.i64.wrap d2) (8:Int)) + (1:Int))):=hS 4 (by decide) 61 rfl
          refine o_call cf_buffer_Check (by simp only [List.map,ev,q59,q60,q61] <;> rfl) (buffer_Check_c x63 (kBuf_mk (d:=x63) (H75.up (((G94.trans (Fr.ext F96)).trans (Fr.ext F106)).trans (Fr.ext F315o)) (fun _ h=>h) (upc (.inr m81) (fun _ h=>.inl h)))) d1 (kArena_mk (d:=d1) (H6.up (((G90.trans (Fr.ext F96)).trans (Fr.ext F106)).trans (Fr.ext F315o)) (fun _ h=>h) (upc (.inr m77) (fun _ h=>.inl h))) (H9.up (((G90.trans (Fr.ext F96)).trans (Fr.ext F106)).trans (Fr.ext F315o)) (fun _ h=>h) (upc (.inr m77) (fun _ h=>.inl h)))) (IntKind.i64.wrap ((Int.tmod (IntKind.i64.wrap d2) (8:Int)) + (1:Int))) ((hL.fr E358).cons (((B88'.ex F96).ex F106).ex F315o).lt) (eq_ev hx316 (bufCheck_ev x63 d1 (IntKind.i64.wrap ((Int.tmod (IntKind.i64.wrap d2) (8:Int)) + (1:Int))) ha317 ha318))) (want_t (t:=58) rfl q58 (of_not hc33)) rfl ?_
          rintro _ w' ⟨F,rfl⟩
          exact eo_nil ⟨rfl,rfl,_,rfl,F,rfl⟩
         ·intro ρ w315o F315o hS hρ
          have q58:ρ 58=.bool (worksV):=hS 1 (by decide) 58 rfl
          have q62:ρ 62=.int .i64 x316:=hS 5 (by decide) 62 rfl
          exact o_v (r_int q62 rfl rfl) (want_t (t:=58) rfl q58 (of_not hc33)) rfl rfl (eo_nil ⟨rfl,rfl,_,rfl,Fr.refl _ _,rfl⟩)
         ·intro ρ w315o F315o hS hρ
          have q58:ρ 58=.bool (worksV):=hS 1 (by decide) 58 rfl
          have q63:ρ 63=.bool (x316==(0:Int)):=hS 6 (by decide) 63 rfl
          exact o_q (r_pickT q58 (of_not hc33) q63) ⟨Fr.refl _ _,rfl⟩
         ·intro ρ w315o F315o hS hρ
          have q64:ρ 64=.bool (x316==(0:Int)):=hS 7 (by decide) 64 rfl
          exact o_q (r_mov q64) ⟨Fr.refl _ _,rfl⟩
         ·intro ρ w315o F315o hS hρ
          have q6:ρ 6=.pointer (some ⟨b16,0,none⟩):=hρ 6 (by kernel_rfl)
          have q65:ρ 65=.bool (x316==(0:Int)):=hS 8 (by decide) 65 rfl
          exact o_v (r_lda agg_buffer_Buffer q6 (vs:=(cBuf d0 A1 c2)) rfl ((S16.fr (((G91.trans (Fr.ext F96)).trans (Fr.ext F106)).trans (Fr.ext F315o)) (fun _ h=>h)).now.part (n:=3) rfl)) (want_t (t:=65) rfl q65 (by rw [hx316]; exact hc116)) rfl rfl (eo_nil ⟨rfl,rfl,_,rfl,Fr.refl _ _,rfl⟩)
         ·intro ρ w315o F315o hS hρ
          have E372:=E108.trans F315o
          have q65:ρ 65=.bool (x316==(0:Int)):=hS 8 (by decide) 65 rfl
          have q66:ρ 66=.agg (cBuf d0 A1 c2).toArray:=hS 9 (by decide) 66 rfl
          refine o_call cf_buffer_Reset (by simp only [List.map,ev,q66] <;> rfl) (buffer_Reset_c d0 (kBuf_mk (d:=d0) (H3.up (((G90.trans (Fr.ext F96)).trans (Fr.ext F106)).trans (Fr.ext F315o)) (fun _ h=>h) (upc (.inr m77) (fun _ h=>.inl h)))) ((hL.fr E372).cons (((B88'.ex F96).ex F106).ex F315o).lt) (eq_ev hx319 (bufReset_ev d0))) (want_t (t:=65) rfl q65 (by rw [hx316]; exact hc116)) rfl ?_
          rintro _ w' ⟨F,cs379,rfl,H380⟩
          obtain ⟨A320,c321,rfl,H322⟩:=kBuf_open H380
          exact eo_nil ⟨rfl,rfl,_,rfl,F,⟨A320,c321,rfl,H322⟩⟩
         ·intro ρ w315o F315o hS hρ
          have q7:ρ 7=.pointer (some ⟨b18,0,none⟩):=hρ 7 (by kernel_rfl)
          have q65:ρ 65=.bool (x316==(0:Int)):=hS 8 (by decide) 65 rfl
          exact o_v (r_lda agg_api_Arena q7 (vs:=(cArena d1 A4 c5 A7 c8)) rfl ((S18.fr (((G92.trans (Fr.ext F96)).trans (Fr.ext F106)).trans (Fr.ext F315o)) (fun _ h=>h)).now.part (n:=3) rfl)) (want_t (t:=65) rfl q65 (by rw [hx316]; exact hc116)) rfl rfl (eo_nil ⟨rfl,rfl,_,rfl,Fr.refl _ _,rfl⟩)
         ·intro ρ w315o F315o hS hρ
          have q15:ρ 15=.int .i64 (IntKind.i64.wrap ((Int.tmod (IntKind.i64.wrap d2) (8:Int)) + (1:Int))):=hρ 15 (by kernel_rfl)
          have q65:ρ 65=.bool (x316==(0:Int)):=hS 8 (by decide) 65 rfl
          exact o_v (r_mov q15) (want_t (t:=65) rfl q65 (by rw [hx316]; exact hc116)) rfl rfl (eo_nil ⟨rfl,rfl,_,rfl,Fr.refl _ _,rfl⟩)
         ·intro ρ w315o F315o hS hρ
          have E388:=E108.trans F315o
          have q65:ρ 65=.bool (x316==(0:Int)):=hS 8 (by decide) 65 rfl
          obtain ⟨A320,c321,q67,H322⟩:=hS 10 (by decide) 67 rfl
          have q68:ρ 68=.agg (cArena d1 A4 c5 A7 c8).toArray:=hS 11 (by decide) 68 rfl
          have q69:ρ 69=.int .i64 (IntKind.i64.wrap ((Int.tmod (IntKind.i64.wrap d2) (8:Int)) + (1:Int))):=hS 12 (by decide) 69 rfl
          refine o_call cf_buffer_Check (by simp only [List.map,ev,q67,q68,q69] <;> rfl) (buffer_Check_c x319 (kBuf_mk (d:=x319) H322) d1 (kArena_mk (d:=d1) (H6.up (((G90.trans (Fr.ext F96)).trans (Fr.ext F106)).trans (Fr.ext F315o)) (fun _ h=>h) (upc (.inr m77) (fun _ h=>.inl h))) (H9.up (((G90.trans (Fr.ext F96)).trans (Fr.ext F106)).trans (Fr.ext F315o)) (fun _ h=>h) (upc (.inr m77) (fun _ h=>.inl h)))) (IntKind.i64.wrap ((Int.tmod (IntKind.i64.wrap d2) (8:Int)) + (1:Int))) ((hL.fr E388).cons (((B88'.ex F96).ex F106).ex F315o).lt) (eq_ev hx323 (bufCheck_ev x319 d1 (IntKind.i64.wrap ((Int.tmod (IntKind.i64.wrap d2) (8:Int)) + (1:Int))) ha324 ha325))) (want_t (t:=65) rfl q65 (by rw [hx316]; exact hc116)) rfl ?_
          rintro _ w' ⟨F,rfl⟩
          exact eo_nil ⟨rfl,rfl,_,rfl,F,rfl⟩
         ·intro ρ w315o F315o hS hρ
          have q65:ρ 65=.bool (x316==(0:Int)):=hS 8 (by decide) 65 rfl
          have q70:ρ 70=.int .i64 x323:=hS 13 (by decide) 70 rfl
          exact o_v (r_int q70 rfl rfl) (want_t (t:=65) rfl q65 (by rw [hx316]; exact hc116)) rfl rfl (eo_nil ⟨rfl,rfl,_,rfl,Fr.refl _ _,rfl⟩)
         ·intro ρ w315o F315o hS hρ
          have q65:ρ 65=.bool (x316==(0:Int)):=hS 8 (by decide) 65 rfl
          have q71:ρ 71=.bool (x323==(0:Int)):=hS 14 (by decide) 71 rfl
          exact o_q (r_pickT q65 (by rw [hx316]; exact hc116) q71) ⟨Fr.refl _ _,rfl⟩
         ·intro ρ w315o F315o hS hρ
          have q72:ρ 72=.bool (x323==(0:Int)):=hS 15 (by decide) 72 rfl
          exact o_q (r_mov q72) ⟨Fr.refl _ _,rfl⟩
         ·intro ρ w315o F315o hS hρ
          have q6:ρ 6=.pointer (some ⟨b16,0,none⟩):=hρ 6 (by kernel_rfl)
          have q73:ρ 73=.bool (x323==(0:Int)):=hS 16 (by decide) 73 rfl
          exact o_v (r_lda agg_buffer_Buffer q6 (vs:=(cBuf d0 A1 c2)) rfl ((S16.fr (((G91.trans (Fr.ext F96)).trans (Fr.ext F106)).trans (Fr.ext F315o)) (fun _ h=>h)).now.part (n:=3) rfl)) (want_t (t:=73) rfl q73 (by rw [hx323]; exact (by rw [hx319]; exact hc117))) rfl rfl (eo_nil ⟨rfl,rfl,_,rfl,Fr.refl _ _,rfl⟩)
         ·intro ρ w315o F315o hS hρ
          have q7:ρ 7=.pointer (some ⟨b18,0,none⟩):=hρ 7 (by kernel_rfl)
          have q73:ρ 73=.bool (x323==(0:Int)):=hS 16 (by decide) 73 rfl
          exact o_v (r_lda agg_api_Arena q7 (vs:=(cArena d1 A4 c5 A7 c8)) rfl ((S18.fr (((G92.trans (Fr.ext F96)).trans (Fr.ext F106)).trans (Fr.ext F315o)) (fun _ h=>h)).now.part (n:=3) rfl)) (want_t (t:=73) rfl q73 (by rw [hx323]; exact (by rw [hx319]; exact hc117))) rfl rfl (eo_nil ⟨rfl,rfl,_,rfl,Fr.refl _ _,rfl⟩)
         ·intro ρ w315o F315o hS hρ
          have q15:ρ 15=.int .i64 (IntKind.i64.wrap ((Int.tmod (IntKind.i64.wrap d2) (8:Int)) + (1:Int))):=hρ 15 (by kernel_rfl)
          have q73:ρ 73=.bool (x323==(0:Int)):=hS 16 (by decide) 73 rfl
          exact o_v (r_mov q15) (want_t (t:=73) rfl q73 (by rw [hx323]; exact (by rw [hx319]; exact hc117))) rfl rfl (eo_nil ⟨rfl,rfl,_,rfl,Fr.refl _ _,rfl⟩)
         ·intro ρ w315o F315o hS hρ
          have q9:ρ 9=.pointer (some ⟨b22,0,none⟩):=hρ 9 (by kernel_rfl)
          have q73:ρ 73=.bool (x323==(0:Int)):=hS 16 (by decide) 73 rfl
          exact o_v (r_lda agg_api_Entry q9 (vs:=(cEnt d3 A10 c11 A13 c14)) rfl ((S22.fr (((G93.trans (Fr.ext F96)).trans (Fr.ext F106)).trans (Fr.ext F315o)) (fun _ h=>h)).now.part (n:=9) rfl)) (want_t (t:=73) rfl q73 (by rw [hx323]; exact (by rw [hx319]; exact hc117))) rfl rfl (eo_nil ⟨rfl,rfl,_,rfl,Fr.refl _ _,rfl⟩)
         ·intro ρ w315o F315o hS hρ
          have E416:=E108.trans F315o
          have q73:ρ 73=.bool (x323==(0:Int)):=hS 16 (by decide) 73 rfl
          have q74:ρ 74=.agg (cBuf d0 A1 c2).toArray:=hS 17 (by decide) 74 rfl
          have q75:ρ 75=.agg (cArena d1 A4 c5 A7 c8).toArray:=hS 18 (by decide) 75 rfl
          have q76:ρ 76=.int .i64 (IntKind.i64.wrap ((Int.tmod (IntKind.i64.wrap d2) (8:Int)) + (1:Int))):=hS 19 (by decide) 76 rfl
          have q77:ρ 77=.agg (cEnt d3 A10 c11 A13 c14).toArray:=hS 20 (by decide) 77 rfl
          refine o_call cf_buffer_Note (by simp only [List.map,ev,q74,q75,q76,q77] <;> rfl) (buffer_Note_c d0 (kBuf_mk (d:=d0) (H3.up (((G90.trans (Fr.ext F96)).trans (Fr.ext F106)).trans (Fr.ext F315o)) (fun _ h=>h) (upc (.inr m77) (fun _ h=>.inl h)))) d1 (kArena_mk (d:=d1) (H6.up (((G90.trans (Fr.ext F96)).trans (Fr.ext F106)).trans (Fr.ext F315o)) (fun _ h=>h) (upc (.inr m77) (fun _ h=>.inl h))) (H9.up (((G90.trans (Fr.ext F96)).trans (Fr.ext F106)).trans (Fr.ext F315o)) (fun _ h=>h) (upc (.inr m77) (fun _ h=>.inl h)))) (IntKind.i64.wrap ((Int.tmod (IntKind.i64.wrap d2) (8:Int)) + (1:Int))) d3 (kEnt_mk (d:=d3) (H12.up (((G90.trans (Fr.ext F96)).trans (Fr.ext F106)).trans (Fr.ext F315o)) (fun _ h=>h) (upc (.inr m77) (fun _ h=>.inl h))) (H15.up (((G90.trans (Fr.ext F96)).trans (Fr.ext F106)).trans (Fr.ext F315o)) (fun _ h=>h) (upc (.inr m77) (fun _ h=>.inl h)))) ((hL.fr E416).cons (((B88'.ex F96).ex F106).ex F315o).lt) (eq_ev hx326 (bufNote_ev d0 d1 (IntKind.i64.wrap ((Int.tmod (IntKind.i64.wrap d2) (8:Int)) + (1:Int))) d3 ha327 ha328))) (want_t (t:=73) rfl q73 (by rw [hx323]; exact (by rw [hx319]; exact hc117))) rfl ?_
          rintro _ w' ⟨F,cs423,rfl,H424⟩
          obtain ⟨A329,c330,rfl,H331⟩:=kBuf_open H424
          exact eo_nil ⟨rfl,rfl,_,rfl,F,⟨A329,c330,rfl,H331⟩⟩
         ·intro ρ w315o F315o hS hρ
          have q7:ρ 7=.pointer (some ⟨b18,0,none⟩):=hρ 7 (by kernel_rfl)
          have q73:ρ 73=.bool (x323==(0:Int)):=hS 16 (by decide) 73 rfl
          exact o_v (r_lda agg_api_Arena q7 (vs:=(cArena d1 A4 c5 A7 c8)) rfl ((S18.fr (((G92.trans (Fr.ext F96)).trans (Fr.ext F106)).trans (Fr.ext F315o)) (fun _ h=>h)).now.part (n:=3) rfl)) (want_t (t:=73) rfl q73 (by rw [hx323]; exact (by rw [hx319]; exact hc117))) rfl rfl (eo_nil ⟨rfl,rfl,_,rfl,Fr.refl _ _,rfl⟩)
         ·intro ρ w315o F315o hS hρ
          have q15:ρ 15=.int .i64 (IntKind.i64.wrap ((Int.tmod (IntKind.i64.wrap d2) (8:Int)) + (1:Int))):=hρ 15 (by kernel_rfl)
          have q73:ρ 73=.bool (x323==(0:Int)):=hS 16 (by decide) 73 rfl
          exact o_v (r_mov q15) (want_t (t:=73) rfl q73 (by rw [hx323]; exact (by rw [hx319]; exact hc117))) rfl rfl (eo_nil ⟨rfl,rfl,_,rfl,Fr.refl _ _,rfl⟩)
         ·intro ρ w315o F315o hS hρ
          have E432:=E108.trans F315o
          have q73:ρ 73=.bool (x323==(0:Int)):=hS 16 (by decide) 73 rfl
          obtain ⟨A329,c330,q78,H331⟩:=hS 21 (by decide) 78 rfl
          have q79:ρ 79=.agg (cArena d1 A4 c5 A7 c8).toArray:=hS 22 (by decide) 79 rfl
          have q80:ρ 80=.int .i64 (IntKind.i64.wrap ((Int.tmod (IntKind.i64.wrap d2) (8:Int)) + (1:Int))):=hS 23 (by decide) 80 rfl
          refine o_call cf_buffer_Check (by simp only [List.map,ev,q78,q79,q80] <;> rfl) (buffer_Check_c x326 (kBuf_mk (d:=x326) H331) d1 (kArena_mk (d:=d1) (H6.up (((G90.trans (Fr.ext F96)).trans (Fr.ext F106)).trans (Fr.ext F315o)) (fun _ h=>h) (upc (.inr m77) (fun _ h=>.inl h))) (H9.up (((G90.trans (Fr.ext F96)).trans (Fr.ext F106)).trans (Fr.ext F315o)) (fun _ h=>h) (upc (.inr m77) (fun _ h=>.inl h)))) (IntKind.i64.wrap ((Int.tmod (IntKind.i64.wrap d2) (8:Int)) + (1:Int))) ((hL.fr E432).cons (((B88'.ex F96).ex F106).ex F315o).lt) (eq_ev hx332 (bufCheck_ev x326 d1 (IntKind.i64.wrap ((Int.tmod (IntKind.i64.wrap d2) (8:Int)) + (1:Int))) ha333 ha334))) (want_t (t:=73) rfl q73 (by rw [hx323]; exact (by rw [hx319]; exact hc117))) rfl ?_
          rintro _ w' ⟨F,rfl⟩
          exact eo_nil ⟨rfl,rfl,_,rfl,F,rfl⟩
         ·intro ρ w315o F315o hS hρ
          have q73:ρ 73=.bool (x323==(0:Int)):=hS 16 (by decide) 73 rfl
          have q81:ρ 81=.int .i64 x332:=hS 24 (by decide) 81 rfl
          exact o_v (r_int q81 rfl rfl) (want_t (t:=73) rfl q73 (by rw [hx323]; exact (by rw [hx319]; exact hc117))) rfl rfl (eo_nil ⟨rfl,rfl,_,rfl,Fr.refl _ _,rfl⟩)
         ·intro ρ w315o F315o hS hρ
          have q73:ρ 73=.bool (x323==(0:Int)):=hS 16 (by decide) 73 rfl
          have q82:ρ 82=.bool (x332==(0:Int)):=hS 25 (by decide) 82 rfl
          exact o_q (r_pickT q73 (by rw [hx323]; exact (by rw [hx319]; exact hc117)) q82) ⟨Fr.refl _ _,rfl⟩
         ·intro ρ w315o F315o hS hρ
          have q83:ρ 83=.bool (x332==(0:Int)):=hS 26 (by decide) 83 rfl
          exact o_q (r_mov q83) ⟨Fr.refl _ _,rfl⟩
         ·intro ρ w315o F315o hS hρ
          have q6:ρ 6=.pointer (some ⟨b16,0,none⟩):=hρ 6 (by kernel_rfl)
          have q84:ρ 84=.bool (x332==(0:Int)):=hS 27 (by decide) 84 rfl
          exact o_v (r_lda agg_buffer_Buffer q6 (vs:=(cBuf d0 A1 c2)) rfl ((S16.fr (((G91.trans (Fr.ext F96)).trans (Fr.ext F106)).trans (Fr.ext F315o)) (fun _ h=>h)).now.part (n:=3) rfl)) (want_t (t:=84) rfl q84 (by rw [hx332]; exact (by rw [hx326]; exact hc118))) rfl rfl (eo_nil ⟨rfl,rfl,_,rfl,Fr.refl _ _,rfl⟩)
         ·intro ρ w315o F315o hS hρ
          have q7:ρ 7=.pointer (some ⟨b18,0,none⟩):=hρ 7 (by kernel_rfl)
          have q84:ρ 84=.bool (x332==(0:Int)):=hS 27 (by decide) 84 rfl
          exact o_v (r_lda agg_api_Arena q7 (vs:=(cArena d1 A4 c5 A7 c8)) rfl ((S18.fr (((G92.trans (Fr.ext F96)).trans (Fr.ext F106)).trans (Fr.ext F315o)) (fun _ h=>h)).now.part (n:=3) rfl)) (want_t (t:=84) rfl q84 (by rw [hx332]; exact (by rw [hx326]; exact hc118))) rfl rfl (eo_nil ⟨rfl,rfl,_,rfl,Fr.refl _ _,rfl⟩)
         ·intro ρ w315o F315o hS hρ
          have q15:ρ 15=.int .i64 (IntKind.i64.wrap ((Int.tmod (IntKind.i64.wrap d2) (8:Int)) + (1:Int))):=hρ 15 (by kernel_rfl)
          have q84:ρ 84=.bool (x332==(0:Int)):=hS 27 (by decide) 84 rfl
          exact o_v (r_mov q15) (want_t (t:=84) rfl q84 (by rw [hx332]; exact (by rw [hx326]; exact hc118))) rfl rfl (eo_nil ⟨rfl,rfl,_,rfl,Fr.refl _ _,rfl⟩)
         ·intro ρ w315o F315o hS hρ
          have q4:ρ 4=.int .i64 d4:=hρ 4 (by kernel_rfl)
          have q84:ρ 84=.bool (x332==(0:Int)):=hS 27 (by decide) 84 rfl
          exact o_v (r_mov q4) (want_t (t:=84) rfl q84 (by rw [hx332]; exact (by rw [hx326]; exact hc118))) rfl rfl (eo_nil ⟨rfl,rfl,_,rfl,Fr.refl _ _,rfl⟩)
         ·intro ρ w315o F315o hS hρ
          have q5:ρ 5=.int .i64 d5:=hρ 5 (by kernel_rfl)
          have q84:ρ 84=.bool (x332==(0:Int)):=hS 27 (by decide) 84 rfl
          exact o_v (r_mov q5) (want_t (t:=84) rfl q84 (by rw [hx332]; exact (by rw [hx326]; exact hc118))) rfl rfl (eo_nil ⟨rfl,rfl,_,rfl,Fr.refl _ _,rfl⟩)
         ·intro ρ w315o F315o hS hρ
          have E453:=E108.trans F315o
          have q84:ρ 84=.bool (x332==(0:Int)):=hS 27 (by decide) 84 rfl
          have q85:ρ 85=.agg (cBuf d0 A1 c2).toArray:=hS 28 (by decide) 85 rfl
          have q86:ρ 86=.agg (cArena d1 A4 c5 A7 c8).toArray:=hS 29 (by decide) 86 rfl
          have q87:ρ 87=.int .i64 (IntKind.i64.wrap ((Int.tmod (IntKind.i64.wrap d2) (8:Int)) + (1:Int))):=hS 30 (by decide) 87 rfl
          have q88:ρ 88=.int .i64 d4:=hS 31 (by decide) 88 rfl
          have q89:ρ 89=.int .i64 d5:=hS 32 (by decide) 89 rfl
          refine o_call cf_buffer_Ack (by simp only [List.map,ev,q85,q86,q87,q88,q89] <;> rfl) (buffer_Ack_c d0 (kBuf_mk (d:=d0) (H3.up (((G90.trans (Fr.ext F96)).trans (Fr.ext F106)).trans (Fr.ext F315o)) (fun _ h=>h) (upc (.inr m77) (fun _ h=>.inl h)))) d1 (kArena_mk (d:=d1) (H6.up (((G90.trans (Fr.ext F96)).trans (Fr.ext F106)).trans (Fr.ext F315o)) (fun _ h=>h) (upc (.inr m77) (fun _ h=>.inl h))) (H9.up (((G90.trans (Fr.ext F96)).trans (Fr.ext F106)).trans (Fr.ext F315o)) (fun _ h=>h) (upc (.inr m77) (fun _ h=>.inl h)))) (IntKind.i64.wrap ((Int.tmod (IntKind.i64.wrap d2) (8:Int)) + (1:Int))) d4 d5 ((hL.fr E453).cons (((B88'.ex F96).ex F106).ex F315o).lt) (eq_ev hx335 (bufAck_ev d0 d1 (IntKind.i64.wrap ((Int.tmod (IntKind.i64.wrap d2) (8:Int)) + (1:Int))) d4 d5 ha336 ha337))) (want_t (t:=84) rfl q84 (by rw [hx332]; exact (by rw [hx326]; exact hc118))) rfl ?_
          rintro _ w' ⟨F,cs460,rfl,H461⟩
          obtain ⟨A338,c339,rfl,H340⟩:=kBuf_open H461
          exact eo_nil ⟨rfl,rfl,_,rfl,F,⟨A338,c339,rfl,H340⟩⟩
         ·intro ρ w315o F315o hS hρ
          have q7:ρ 7=.pointer (some ⟨b18,0,none⟩):=hρ 7 (by kernel_rfl)
          have q84:ρ 84=.bool (x332==(0:Int)):=hS 27 (by decide) 84 rfl
          exact o_v (r_lda agg_api_Arena q7 (vs:=(cArena d1 A4 c5 A7 c8)) rfl ((S18.fr (((G92.trans (Fr.ext F96)).trans (Fr.ext F106)).trans (Fr.ext F315o)) (fun _ h=>h)).now.part (n:=3) rfl)) (want_t (t:=84) rfl q84 (by rw [hx332]; exact (by rw [hx326]; exact hc118))) rfl rfl (eo_nil ⟨rfl,rfl,_,rfl,Fr.refl _ _,rfl⟩)
         ·intro ρ w315o F315o hS hρ
          have q15:ρ 15=.int .i64 (IntKind.i64.wrap ((Int.tmod (IntKind.i64.wrap d2) (8:Int)) + (1:Int))):=hρ 15 (by kernel_rfl)
          have q84:ρ 84=.bool (x332==(0:Int)):=hS 27 (by decide) 84 rfl
          exact o_v (r_mov q15) (want_t (t:=84) rfl q84 (by rw [hx332]; exact (by rw [hx326]; exact hc118))) rfl rfl (eo_nil ⟨rfl,rfl,_,rfl,Fr.refl _ _,rfl⟩)
         ·intro ρ w315o F315o hS hρ
          have E469:=E108.trans F315o
          have q84:ρ 84=.bool (x332==(0:Int)):=hS 27 (by decide) 84 rfl
          obtain ⟨A338,c339,q90,H340⟩:=hS 33 (by decide) 90 rfl
          have q91:ρ 91=.agg (cArena d1 A4 c5 A7 c8).toArray:=hS 34 (by decide) 91 rfl
          have q92:ρ 92=.int .i64 (IntKind.i64.wrap ((Int.tmod (IntKind.i64.wrap d2) (8:Int)) + (1:Int))):=hS 35 (by decide) 92 rfl
          refine o_call cf_buffer_Check (by simp only [List.map,ev,q90,q91,q92] <;> rfl) (buffer_Check_c x335 (kBuf_mk (d:=x335) H340) d1 (kArena_mk (d:=d1) (H6.up (((G90.trans (Fr.ext F96)).trans (Fr.ext F106)).trans (Fr.ext F315o)) (fun _ h=>h) (upc (.inr m77) (fun _ h=>.inl h))) (H9.up (((G90.trans (Fr.ext F96)).trans (Fr.ext F106)).trans (Fr.ext F315o)) (fun _ h=>h) (upc (.inr m77) (fun _ h=>.inl h)))) (IntKind.i64.wrap ((Int.tmod (IntKind.i64.wrap d2) (8:Int)) + (1:Int))) ((hL.fr E469).cons (((B88'.ex F96).ex F106).ex F315o).lt) (eq_ev hx341 (bufCheck_ev x335 d1 (IntKind.i64.wrap ((Int.tmod (IntKind.i64.wrap d2) (8:Int)) + (1:Int))) ha342 ha343))) (want_t (t:=84) rfl q84 (by rw [hx332]; exact (by rw [hx326]; exact hc118))) rfl ?_
          rintro _ w' ⟨F,rfl⟩
          exact eo_nil ⟨rfl,rfl,_,rfl,F,rfl⟩
         ·intro ρ w315o F315o hS hρ
          have q84:ρ 84=.bool (x332==(0:Int)):=hS 27 (by decide) 84 rfl
          have q93:ρ 93=.int .i64 x341:=hS 36 (by decide) 93 rfl
          exact o_v (r_int q93 rfl rfl) (want_t (t:=84) rfl q84 (by rw [hx332]; exact (by rw [hx326]; exact hc118))) rfl rfl (eo_nil ⟨rfl,rfl,_,rfl,Fr.refl _ _,rfl⟩)
         ·intro ρ w315o F315o hS hρ
          have q84:ρ 84=.bool (x332==(0:Int)):=hS 27 (by decide) 84 rfl
          have q94:ρ 94=.bool (x341==(0:Int)):=hS 37 (by decide) 94 rfl
          exact o_q (r_pickT q84 (by rw [hx332]; exact (by rw [hx326]; exact hc118)) q94) ⟨Fr.refl _ _,rfl⟩
         ·intro ρ w315o F315o hS hρ
          have q95:ρ 95=.bool (x341==(0:Int)):=hS 38 (by decide) 95 rfl
          exact o_q (r_mov q95) ⟨Fr.refl _ _,rfl⟩
         ·intro ρ w315o F315o hS hρ
          have q6:ρ 6=.pointer (some ⟨b16,0,none⟩):=hρ 6 (by kernel_rfl)
          have q96:ρ 96=.bool (x341==(0:Int)):=hS 39 (by decide) 96 rfl
          exact o_no (want_f (t:=96) rfl q96 (by rw [hx341]; exact (by rw [hx335]; exact hc119))) rfl (eo_nil ⟨rfl,rfl,undef,rfl,Fr.refl _ _,rfl⟩)
         ·intro ρ w315o F315o hS hρ
          have q7:ρ 7=.pointer (some ⟨b18,0,none⟩):=hρ 7 (by kernel_rfl)
          have q96:ρ 96=.bool (x341==(0:Int)):=hS 39 (by decide) 96 rfl
          exact o_no (want_f (t:=96) rfl q96 (by rw [hx341]; exact (by rw [hx335]; exact hc119))) rfl (eo_nil ⟨rfl,rfl,undef,rfl,Fr.refl _ _,rfl⟩)
         ·intro ρ w315o F315o hS hρ
          have q15:ρ 15=.int .i64 (IntKind.i64.wrap ((Int.tmod (IntKind.i64.wrap d2) (8:Int)) + (1:Int))):=hρ 15 (by kernel_rfl)
          have q96:ρ 96=.bool (x341==(0:Int)):=hS 39 (by decide) 96 rfl
          exact o_no (want_f (t:=96) rfl q96 (by rw [hx341]; exact (by rw [hx335]; exact hc119))) rfl (eo_nil ⟨rfl,rfl,undef,rfl,Fr.refl _ _,rfl⟩)
         ·intro ρ w315o F315o hS hρ
          have q96:ρ 96=.bool (x341==(0:Int)):=hS 39 (by decide) 96 rfl
          exact o_no (want_f (t:=96) rfl q96 (by rw [hx341]; exact (by rw [hx335]; exact hc119))) rfl (eo_nil ⟨rfl,rfl,undef,rfl,Fr.refl _ _,rfl⟩)
         ·intro ρ w315o F315o hS hρ
          have q96:ρ 96=.bool (x341==(0:Int)):=hS 39 (by decide) 96 rfl
          exact o_no (want_f (t:=96) rfl q96 (by rw [hx341]; exact (by rw [hx335]; exact hc119))) rfl (eo_nil ⟨rfl,rfl,undef,rfl,Fr.refl _ _,rfl⟩)
         ·intro ρ w315o F315o hS hρ
          have q96:ρ 96=.bool (x341==(0:Int)):=hS 39 (by decide) 96 rfl
          exact o_no (want_f (t:=96) rfl q96 (by rw [hx341]; exact (by rw [hx335]; exact hc119))) rfl (eo_nil ⟨rfl,rfl,undef,rfl,Fr.refl _ _,rfl⟩)
         ·intro ρ w315o F315o hS hρ
          have q15:ρ 15=.int .i64 (IntKind.i64.wrap ((Int.tmod (IntKind.i64.wrap d2) (8:Int)) + (1:Int))):=hρ 15 (by kernel_rfl)
          have q96:ρ 96=.bool (x341==(0:Int)):=hS 39 (by decide) 96 rfl
          exact o_no (want_f (t:=96) rfl q96 (by rw [hx341]; exact (by rw [hx335]; exact hc119))) rfl (eo_nil ⟨rfl,rfl,undef,rfl,Fr.refl _ _,rfl⟩)
         ·intro ρ w315o F315o hS hρ
          have q96:ρ 96=.bool (x341==(0:Int)):=hS 39 (by decide) 96 rfl
          exact o_no (want_f (t:=96) rfl q96 (by rw [hx341]; exact (by rw [hx335]; exact hc119))) rfl (eo_nil ⟨rfl,rfl,undef,rfl,Fr.refl _ _,rfl⟩)
         ·intro ρ w315o F315o hS hρ
          have q96:ρ 96=.bool (x341==(0:Int)):=hS 39 (by decide) 96 rfl
          exact o_q (r_pickF q96 (by rw [hx341]; exact (by rw [hx335]; exact hc119)) rfl) ⟨Fr.refl _ _,rfl⟩
         ·intro ρ w315o F315o hS hρ
          have q105:ρ 105=.bool false:=hS 48 (by decide) 105 rfl
          exact o_q (r_asg q105) ⟨Fr.refl _ _,rfl⟩
        ·intro ρ w315 F315 hS hρ
         have q12:ρ 12=.bool false:=hS 49 12 rfl
         obtain ⟨ρ',rfl⟩:∃ ρ',ρ=envs (ovr [12,57,58,59,60,61,62,63,64,65,66,67,68,69,70,71,72,73,74,75,76,77,78,79,80,81,82,83,84,85,86,87,88,89,90,91,92,93,94,95,96,97,98,99,100,101,102,103,104,105] ρ' _) [(12,.bool false)]:=⟨ρ,ovr_self hρ ⟨q12,trivial⟩⟩
         have E476:=E108.trans F315
         refine sq_n ?_
         refine ec_ret ?_
         subst h
         exact (end1 rfl ⟨_,rfl,E476,rfl⟩)
      ·replace h:=h.2 hc118
       obtain ⟨ha485,h⟩:=h
       obtain ⟨ha486,h⟩:=h
       obtain ⟨x484,hx484,h⟩:=h
       obtain ⟨x487,hx487,h⟩:=h
       obtain ⟨ha492,h⟩:=h
       obtain ⟨ha493,h⟩:=h
       obtain ⟨x491,hx491,h⟩:=h
       obtain ⟨ha495,h⟩:=h
       obtain ⟨ha496,h⟩:=h
       obtain ⟨x494,hx494,h⟩:=h
       obtain ⟨ha501,h⟩:=h
       obtain ⟨ha502,h⟩:=h
       obtain ⟨x500,hx500,h⟩:=h
       refine ec_any0 (by kernel_rfl) [[],[0],[0,1],[0,1],[0,1],[0,1,2,3,4],[0,1,2,3,4,5],[0,1,2,3,4,5,6],[0,1,2,3,4,5,6,7],[0,1,2,3,4,5,6,7,8],[0,1,2,3,4,5,6,7,8,9],[0,1,2,3,4,5,6,7,8],[0,1,2,3,4,5,6,7,8],[0,1,2,3,4,5,6,7,8,9,10,11,12],[0,1,2,3,4,5,6,7,8,9,10,11,12,13],[0,1,2,3,4,5,6,7,8,9,10,11,12,13,14],[0,1,2,3,4,5,6,7,8,9,10,11,12,13,14,15],[0,1,2,3,4,5,6,7,8,9,10,11,12,13,14,15,16],[0,1,2,3,4,5,6,7,8,9,10,11,12,13,14,15,16],[0,1,2,3,4,5,6,7,8,9,10,11,12,13,14,15,16],[0,1,2,3,4,5,6,7,8,9,10,11,12,13,14,15,16],[0,1,2,3,4,5,6,7,8,9,10,11,12,13,14,15,16,17,18,19,20],[0,1,2,3,4,5,6,7,8,9,10,11,12,13,14,15,16],[0,1,2,3,4,5,6,7,8,9,10,11,12,13,14,15,16],[0,1,2,3,4,5,6,7,8,9,10,11,12,13,14,15,16,17,18,19,20,21,22,23],[0,1,2,3,4,5,6,7,8,9,10,11,12,13,14,15,16,17,18,19,20,21,22,23,24],[0,1,2,3,4,5,6,7,8,9,10,11,12,13,14,15,16,17,18,19,20,21,22,23,24,25],[0,1,2,3,4,5,6,7,8,9,10,11,12,13,14,15,16,17,18,19,20,21,22,23,24,25,26],[0,1,2,3,4,5,6,7,8,9,10,11,12,13,14,15,16,17,18,19,20,21,22,23,24,25,26,27],[0,1,2,3,4,5,6,7,8,9,10,11,12,13,14,15,16,17,18,19,20,21,22,23,24,25,26,27],[0,1,2,3,4,5,6,7,8,9,10,11,12,13,14,15,16,17,18,19,20,21,22,23,24,25,26,27],[0,1,2,3,4,5,6,7,8,9,10,11,12,13,14,15,16,17,18,19,20,21,22,23,24,25,26,27],[0,1,2,3,4,5,6,7,8,9,10,11,12,13,14,15,16,17,18,19,20,21,22,23,24,25,26,27],[0,1,2,3,4,5,6,7,8,9,10,11,12,13,14,15,16,17,18,19,20,21,22,23,24,25,26,27,28,29,30,31,32],[0,1,2,3,4,5,6,7,8,9,10,11,12,13,14,15,16,17,18,19,20,21,22,23,24,25,26,27],[0,1,2,3,4,5,6,7,8,9,10,11,12,13,14,15,16,17,18,19,20,21,22,23,24,25,26,27],[0,1,2,3,4,5,6,7,8,9,10,11,12,13,14,15,16,17,18,19,20,21,22,23,24,25,26,27,28,29,30,31,32,33,34,35],[0,1,2,3,4,5,6,7,8,9,10,11,12,13,14,15,16,17,18,19,20,21,22,23,24,25,26,27,28,29,30,31,32,33,34,35,36],[0,1,2,3,4,5,6,7,8,9,10,11,12,13,14,15,16,17,18,19,20,21,22,23,24,25,26,27,28,29,30,31,32,33,34,35,36,37],[0,1,2,3,4,5,6,7,8,9,10,11,12,13,14,15,16,17,18,19,20,21,22,23,24,25,26,27,28,29,30,31,32,33,34,35,36,37,38],[0,1,2,3,4,5,6,7,8,9,10,11,12,13,14,15,16,17,18,19,20,21,22,23,24,25,26,27,28,29,30,31,32,33,34,35,36,37,38,39],[0,1,2,3,4,5,6,7,8,9,10,11,12,13,14,15,16,17,18,19,20,21,22,23,24,25,26,27,28,29,30,31,32,33,34,35,36,37,38,39],[0,1,2,3,4,5,6,7,8,9,10,11,12,13,14,15,16,17,18,19,20,21,22,23,24,25,26,27,28,29,30,31,32,33,34,35,36,37,38,39],[0,1,2,3,4,5,6,7,8,9,10,11,12,13,14,15,16,17,18,19,20,21,22,23,24,25,26,27,28,29,30,31,32,33,34,35,36,37,38,39],[0,1,2,3,4,5,6,7,8,9,10,11,12,13,14,15,16,17,18,19,20,21,22,23,24,25,26,27,28,29,30,31,32,33,34,35,36,37,38,39,40,41,42,43],[0,1,2,3,4,5,6,7,8,9,10,11,12,13,14,15,16,17,18,19,20,21,22,23,24,25,26,27,28,29,30,31,32,33,34,35,36,37,38,39,40,41,42,43,44],[0,1,2,3,4,5,6,7,8,9,10,11,12,13,14,15,16,17,18,19,20,21,22,23,24,25,26,27,28,29,30,31,32,33,34,35,36,37,38,39],[0,1,2,3,4,5,6,7,8,9,10,11,12,13,14,15,16,17,18,19,20,21,22,23,24,25,26,27,28,29,30,31,32,33,34,35,36,37,38,39,40,41,42,43,44,45,46],[0,1,2,3,4,5,6,7,8,9,10,11,12,13,14,15,16,17,18,19,20,21,22,23,24,25,26,27,28,29,30,31,32,33,34,35,36,37,38,39,40,41,42,43,44,45,46,47],[0,1,2,3,4,5,6,7,8,9,10,11,12,13,14,15,16,17,18,19,20,21,22,23,24,25,26,27,28,29,30,31,32,33,34,35,36,37,38,39,40,41,42,43,44,45,46,47,48]] [12,57,58,59,60,61,62,63,64,65,66,67,68,69,70,71,72,73,74,75,76,77,78,79,80,81,82,83,84,85,86,87,88,89,90,91,92,93,94,95,96,97,98,99,100,101,102,103,104,105] [fun v _=>v=(.bool (worksV):Value),fun v _=>v=(.bool (worksV):Value),fun v _=>v=(.agg (cBuf x63 A73 c74).toArray:Value),fun v _=>v=(.agg (cArena d1 A4 c5 A7 c8).toArray:Value),fun v _=>v=(.int .i64 (IntKind.i64.wrap ((Int.tmod (IntKind.i64.wrap d2) (8:Int)) + (1:Int))):Value),fun v _=>v=(.int .i64 x484:Value),fun v _=>v=(.bool (x484==(0:Int)):Value),fun v _=>v=(.bool (x484==(0:Int)):Value),fun v _=>v=(.bool (x484==(0:Int)):Value),fun v _=>v=(.agg (cBuf d0 A1 c2).toArray:Value),fun v w'=>∃ A488 c489,v=(.agg (cBuf x487 A488 c489).toArray:Value)∧Stb (b76::L) w' (fun w=>SlC kNm w A488 c489 x487.names),fun v _=>v=(.agg (cArena d1 A4 c5 A7 c8).toArray:Value),fun v _=>v=(.int .i64 (IntKind.i64.wrap ((Int.tmod (IntKind.i64.wrap d2) (8:Int)) + (1:Int))):Value),fun v _=>v=(.int .i64 x491:Value),fun v _=>v=(.bool (x491==(0:Int)):Value),fun v _=>v=(.bool (x491==(0:Int)):Value),fun v _=>v=(.bool (x491==(0:Int)):Value),fun v _=>v=(.agg (cBuf d0 A1 c2).toArray:Value),fun v _=>v=(.agg (cArena d1 A4 c5 A7 c8).toArray:Value),fun v _=>v=(.int .i64 (IntKind.i64.wrap ((Int.tmod (IntKind.i64.wrap d2) (8:Int)) + (1:Int))):Value),fun v _=>v=(.agg (cEnt d3 A10 c11 A13 c14).toArray:Value),fun v w'=>∃ A497 c498,v=(.agg (cBuf x494 A497 c498).toArray:Value)∧Stb (b76::L) w' (fun w=>SlC kNm w A497 c498 x494.names),fun v _=>v=(.agg (cArena d1 A4 c5 A7 c8).toArray:Value),fun v _=>v=(.int .i64 (IntKind.i64.wrap ((Int.tmod (IntKind.i64.wrap d2) (8:Int)) + (1:Int))):Value),fun v _=>v=(.int .i64 x500:Value),fun v _=>v=(.bool (x500==(0:Int)):Value),fun v _=>v=(.bool (x500==(0:Int)):Value),fun v _=>v=(.bool (x500==(0:Int)):Value),fun v _=>v=((undef:Value):Value),fun v _=>v=((undef:Value):Value),fun v _=>v=((undef:Value):Value),fun v _=>v=((undef:Value):Value),fun v _=>v=((undef:Value):Value),fun v _=>v=((undef:Value):Value),fun v _=>v=((undef:Value):Value),fun v _=>v=((undef:Value):Value),fun v _=>v=((undef:Value):Value),fun v _=>v=((undef:Value):Value),fun v _=>v=(.bool false:Value),fun v _=>v=(.bool false:Value),fun v _=>v=((undef:Value):Value),fun v _=>v=((undef:Value):Value),fun v _=>v=((undef:Value):Value),fun v _=>v=((undef:Value):Value),fun v _=>v=((undef:Value):Value),fun v _=>v=((undef:Value):Value),fun v _=>v=((undef:Value):Value),fun v _=>v=((undef:Value):Value),fun v _=>v=(.bool false:Value),fun v _=>v=(.bool false:Value)] (by kernel_rfl) ⟨fun _ _ _ _ _ h=>h,fun _ _ _ _ _ h=>h,fun _ _ _ _ _ h=>h,fun _ _ _ _ _ h=>h,fun _ _ _ _ _ h=>h,fun _ _ _ _ _ h=>h,fun _ _ _ _ _ h=>h,fun _ _ _ _ _ h=>h,fun _ _ _ _ _ h=>h,fun _ _ _ _ _ h=>h,fun _ v w' w'' F h=>by obtain ⟨A488,c489,hv,H490⟩:=h; exact ⟨A488,c489,hv,(H490.ex F)⟩,fun _ _ _ _ _ h=>h,fun _ _ _ _ _ h=>h,fun _ _ _ _ _ h=>h,fun _ _ _ _ _ h=>h,fun _ _ _ _ _ h=>h,fun _ _ _ _ _ h=>h,fun _ _ _ _ _ h=>h,fun _ _ _ _ _ h=>h,fun _ _ _ _ _ h=>h,fun _ _ _ _ _ h=>h,fun _ v w' w'' F h=>by obtain ⟨A497,c498,hv,H499⟩:=h; exact ⟨A497,c498,hv,(H499.ex F)⟩,fun _ _ _ _ _ h=>h,fun _ _ _ _ _ h=>h,fun _ _ _ _ _ h=>h,fun _ _ _ _ _ h=>h,fun _ _ _ _ _ h=>h,fun _ _ _ _ _ h=>h,fun _ _ _ _ _ h=>h,fun _ _ _ _ _ h=>h,fun _ _ _ _ _ h=>h,fun _ _ _ _ _ h=>h,fun _ _ _ _ _ h=>h,fun _ _ _ _ _ h=>h,fun _ _ _ _ _ h=>h,fun _ _ _ _ _ h=>h,fun _ _ _ _ _ h=>h,fun _ _ _ _ _ h=>h,fun _ _ _ _ _ h=>h,fun _ _ _ _ _ h=>h,fun _ _ _ _ _ h=>h,fun _ _ _ _ _ h=>h,fun _ _ _ _ _ h=>h,fun _ _ _ _ _ h=>h,fun _ _ _ _ _ h=>h,fun _ _ _ _ _ h=>h,fun _ _ _ _ _ h=>h,fun _ _ _ _ _ h=>h,fun _ _ _ _ _ h=>h,fun _ _ _ _ _ h=>h,trivial⟩ ?_ ?_
       ·refine ⟨?_,?_,?_,?_,?_,?_,?_,?_,?_,?_,?_,?_,?_,?_,?_,?_,?_,?_,?_,?_,?_,?_,?_,?_,?_,?_,?_,?_,?_,?_,?_,?_,?_,?_,?_,?_,?_,?_,?_,?_,?_,?_,?_,?_,?_,?_,?_,?_,?_,?_,trivial⟩
        ·intro ρ w483o F483o hS hρ
         have q13:ρ 13=.bool (worksV):=hρ 13 (by kernel_rfl)
         exact o_q (r_mov q13) ⟨Fr.refl _ _,rfl⟩
        ·intro ρ w483o F483o hS hρ
         have q57:ρ 57=.bool (worksV):=hS 0 (by decide) 57 rfl
         exact o_q (r_mov q57) ⟨Fr.refl _ _,rfl⟩
        ·intro ρ w483o F483o hS hρ
         have q16:ρ 16=.pointer (some ⟨b76,0,none⟩):=hρ 16 (by kernel_rfl)
         have q58:ρ 58=.bool (worksV):=hS 1 (by decide) 58 rfl
         exact o_v (r_lda agg_buffer_Buffer q16 (vs:=(cBuf x63 A73 c74)) rfl ((((B88'.ex F96).ex F106).ex F483o).part (n:=3) rfl)) (want_t (t:=58) rfl q58 (of_not hc33)) rfl rfl (eo_nil ⟨rfl,rfl,_,rfl,Fr.refl _ _,rfl⟩)
        ·intro ρ w483o F483o hS hρ
         have q7:ρ 7=.pointer (some ⟨b18,0,none⟩):=hρ 7 (by kernel_rfl)
         have q58:ρ 58=.bool (worksV):=hS 1 (by decide) 58 rfl
         exact o_v (r_lda agg_api_Arena q7 (vs:=(cArena d1 A4 c5 A7 c8)) rfl ((S18.fr (((G92.trans (Fr.ext F96)).trans (Fr.ext F106)).trans (Fr.ext F483o)) (fun _ h=>h)).now.part (n:=3) rfl)) (want_t (t:=58) rfl q58 (of_not hc33)) rfl rfl (eo_nil ⟨rfl,rfl,_,rfl,Fr.refl _ _,rfl⟩)
        ·intro ρ w483o F483o hS hρ
         have q15:ρ 15=.int .i64 (IntKind.i64.wrap ((Int.tmod (IntKind.i64.wrap d2) (8:Int)) + (1:Int))):=hρ 15 (by kernel_rfl)
         have q58:ρ 58=.bool (worksV):=hS 1 (by decide) 58 rfl
         exact o_v (r_mov q15) (want_t (t:=58) rfl q58 (of_not hc33)) rfl rfl (eo_nil ⟨rfl,rfl,_,rfl,Fr.refl _ _,rfl⟩)
        ·intro ρ w483o F483o hS hρ
         have E517:=E108.trans F483o
         have q58:ρ 58=.bool (worksV):=hS 1 (by decide) 58 rfl
         have q59:ρ 59=.agg (cBuf x63 A73 c74).toArray:=hS 2 (by decide) 59 rfl
         have q60:ρ 60=.agg (cArena d1 A4 c5 A7 c8).toArray:=hS 3 (by decide) 60 rfl
         have q61:ρ 61=.int .i64 (IntKind.i64.wrap ((Int.tmod (IntKind.i64.wrap d2) (8:Int)) + (1:Int))):=hS 4 (by decide) 61 rfl
         refine o_call cf_buffer_Check (by simp only [List.map,ev,q59,q60,q61] <;> rfl) (buffer_Check_c x63 (kBuf_mk (d:=x63) (H75.up (((G94.trans (Fr.ext F96)).trans (Fr.ext F106)).trans (Fr.ext F483o)) (fun _ h=>h) (upc (.inr m81) (fun _ h=>.inl h)))) d1 (kArena_mk (d:=d1) (H6.up (((G90.trans (Fr.ext F96)).trans (Fr.ext F106)).trans (Fr.ext F483o)) (fun _ h=>h) (upc (.inr m77) (fun _ h=>.inl h))) (H9.up (((G90.trans (Fr.ext F96)).trans (Fr.ext F106)).trans (Fr.ext F483o)) (fun _ h=>h) (upc (.inr m77) (fun _ h=>.inl h)))) (IntKind.i64.wrap ((Int.tmod (IntKind.i64.wrap d2) (8:Int)) + (1:Int))) ((hL.fr E517).cons (((B88'.ex F96).ex F106).ex F483o).lt) (eq_ev hx484 (bufCheck_ev x63 d1 (IntKind.i64.wrap ((Int.tmod (IntKind.i64.wrap d2) (8:Int)) + (1:Int))) ha485 ha486))) (want_t (t:=58) rfl q58 (of_not hc33)) rfl ?_
         rintro _ w' ⟨F,rfl⟩
         exact eo_nil ⟨rfl,rfl,_,rfl,F,rfl⟩
        ·intro ρ w483o F483o hS hρ
         have q58:ρ 58=.bool (worksV):=hS 1 (by decide) 58 rfl
         have q62:ρ 62=.int .i64 x484:=hS 5 (by decide) 62 rfl
         exact o_v (r_int q62 rfl rfl) (want_t (t:=58) rfl q58 (of_not hc33)) rfl rfl (eo_nil ⟨rfl,rfl,_,rfl,Fr.refl _ _,rfl⟩)
        ·intro ρ w483o F483o hS hρ
         have q58:ρ 58=.bool (worksV):=hS 1 (by decide) 58 rfl
         have q63:ρ 63=.bool (x484==(0:Int)):=hS 6 (by decide) 63 rfl
         exact o_q (r_pickT q58 (of_not hc33) q63) ⟨Fr.refl _ _,rfl⟩
        ·intro ρ w483o F483o hS hρ
         have q64:ρ 64=.bool (x484==(0:Int)):=hS 7 (by decide) 64 rfl
         exact o_q (r_mov q64) ⟨Fr.refl _ _,rfl⟩
        ·intro ρ w483o F483o hS hρ
         have q6:ρ 6=.pointer (some ⟨b16,0,none⟩):=hρ 6 (by kernel_rfl)
         have q65:ρ 65=.bool (x484==(0:Int)):=hS 8 (by decide) 65 rfl
         exact o_v (r_lda agg_buffer_Buffer q6 (vs:=(cBuf d0 A1 c2)) rfl ((S16.fr (((G91.trans (Fr.ext F96)).trans (Fr.ext F106)).trans (Fr.ext F483o)) (fun _ h=>h)).now.part (n:=3) rfl)) (want_t (t:=65) rfl q65 (by rw [hx484]; exact hc116)) rfl rfl (eo_nil ⟨rfl,rfl,_,rfl,Fr.refl _ _,rfl⟩)
        ·intro ρ w483o F483o hS hρ
         have E531:=E108.trans F483o
         have q65:ρ 65=.bool (x484==(0:Int)):=hS 8 (by decide) 65 rfl
         have q66:ρ 66=.agg (cBuf d0 A1 c2).toArray:=hS 9 (by decide) 66 rfl
         refine o_call cf_buffer_Reset (by simp only [List.map,ev,q66] <;> rfl) (buffer_Reset_c d0 (kBuf_mk (d:=d0) (H3.up (((G90.trans (Fr.ext F96)).trans (Fr.ext F106)).trans (Fr.ext F483o)) (fun _ h=>h) (upc (.inr m77) (fun _ h=>.inl h)))) ((hL.fr E531).cons (((B88'.ex F96).ex F106).ex F483o).lt) (eq_ev hx487 (bufReset_ev d0))) (want_t (t:=65) rfl q65 (by rw [hx484]; exact hc116)) rfl ?_
         rintro _ w' ⟨F,cs538,rfl,H539⟩
         obtain ⟨A488,c489,rfl,H490⟩:=kBuf_open H539
         exact eo_nil ⟨rfl,rfl,_,rfl,F,⟨A488,c489,rfl,H490⟩⟩
        ·intro ρ w483o F483o hS hρ
         have q7:ρ 7=.pointer (some ⟨b18,0,none⟩):=hρ 7 (by kernel_rfl)
         have q65:ρ 65=.bool (x484==(0:Int)):=hS 8 (by decide) 65 rfl
         exact o_v (r_lda agg_api_Arena q7 (vs:=(cArena d1 A4 c5 A7 c8)) rfl ((S18.fr (((G92.trans (Fr.ext F96)).trans (Fr.ext F106)).trans (Fr.ext F483o)) (fun _ h=>h)).now.part (n:=3) rfl)) (want_t (t:=65) rfl q65 (by rw [hx484]; exact hc116)) rfl rfl (eo_nil ⟨rfl,rfl,_,rfl,Fr.refl _ _,rfl⟩)
        ·intro ρ w483o F483o hS hρ
         have q15:ρ 15=.int .i64 (IntKind.i64.wrap ((Int.tmod (IntKind.i64.wrap d2) (8:Int)) + (1:Int))):=hρ 15 (by kernel_rfl)
         have q65:ρ 65=.bool (x484==(0:Int)):=hS 8 (by decide) 65 rfl
         exact o_v (r_mov q15) (want_t (t:=65) rfl q65 (by rw [hx484]; exact hc116)) rfl rfl (eo_nil ⟨rfl,rfl,_,rfl,Fr.refl _ _,rfl⟩)
        ·intro ρ w483o F483o hS hρ
         have E547:=E108.trans F483o
         have q65:ρ 65=.bool (x484==(0:Int)):=hS 8 (by decide) 65 rfl
         obtain ⟨A488,c489,q67,H490⟩:=hS 10 (by decide) 67 rfl
         have q68:ρ 68=.agg (cArena d1 A4 c5 A7 c8).toArray:=hS 11 (by decide) 68 rfl
         have q69:ρ 69=.int .i64 (IntKind.i64.wrap ((Int.tmod (IntKind.i64.wrap d2) (8:Int)) + (1:Int))):=hS 12 (by decide) 69 rfl
         refine o_call cf_buffer_Check (by simp only [List.map,ev,q67,q68,q69] <;> rfl) (buffer_Check_c x487 (kBuf_mk (d:=x487) H490) d1 (kArena_mk (d:=d1) (H6.up (((G90.trans (Fr.ext F96)).trans (Fr.ext F106)).trans (Fr.ext F483o)) (fun _ h=>h) (upc (.inr m77) (fun _ h=>.inl h))) (H9.up (((G90.trans (Fr.ext F96)).trans (Fr.ext F106)).trans (Fr.ext F483o)) (fun _ h=>h) (upc (.inr m77) (fun _ h=>.inl h)))) (IntKind.i64.wrap ((Int.tmod (IntKind.i64.wrap d2) (8:Int)) + (1:Int))) ((hL.fr E547).cons (((B88'.ex F96).ex F106).ex F483o).lt) (eq_ev hx491 (bufCheck_ev x487 d1 (IntKind.i64.wrap ((Int.tmod (IntKind.i64.wrap d2) (8:Int)) + (1:Int))) ha492 ha493))) (want_t (t:=65) rfl q65 (by rw [hx484]; exact hc116)) rfl ?_
         rintro _ w' ⟨F,rfl⟩
         exact eo_nil ⟨rfl,rfl,_,rfl,F,rfl⟩
        ·intro ρ w483o F483o hS hρ
         have q65:ρ 65=.bool (x484==(0:Int)):=hS 8 (by decide) 65 rfl
         have q70:ρ 70=.int .i64 x491:=hS 13 (by decide) 70 rfl
         exact o_v (r_int q70 rfl rfl) (want_t (t:=65) rfl q65 (by rw [hx484]; exact hc116)) rfl rfl (eo_nil ⟨rfl,rfl,_,rfl,Fr.refl _ _,rfl⟩)
        ·intro ρ w483o F483o hS hρ
         have q65:ρ 65=.bool (x484==(0:Int)):=hS 8 (by decide) 65 rfl
         have q71:ρ 71=.bool (x491==(0:Int)):=hS 14 (by decide) 71 rfl
         exact o_q (r_pickT q65 (by rw [hx484]; exact hc116) q71) ⟨Fr.refl _ _,rfl⟩
        ·intro ρ w483o F483o hS hρ
         have q72:ρ 72=.bool (x491==(0:Int)):=hS 15 (by decide) 72 rfl
         exact o_q (r_mov q72) ⟨Fr.refl _ _,rfl⟩
        ·intro ρ w483o F483o hS hρ
         have q6:ρ 6=.pointer (some ⟨b16,0,none⟩):=hρ 6 (by kernel_rfl)
         have q73:ρ 73=.bool (x491==(0:Int)):=hS 16 (by decide) 73 rfl
         exact o_v (r_lda agg_buffer_Buffer q6 (vs:=(cBuf d0 A1 c2)) rfl ((S16.fr (((G91.trans (Fr.ext F96)).trans (Fr.ext F106)).trans (Fr.ext F483o)) (fun _ h=>h)).now.part (n:=3) rfl)) (want_t (t:=73) rfl q73 (by rw [hx491]; exact (by rw [hx487]; exact hc117))) rfl rfl (eo_nil ⟨rfl,rfl,_,rfl,Fr.refl _ _,rfl⟩)
        ·intro ρ w483o F483o hS hρ
         have q7:ρ 7=.pointer (some ⟨b18,0,none⟩):=hρ 7 (by kernel_rfl)
         have q73:ρ 73=.bool (x491==(0:Int)):=hS 16 (by decide) 73 rfl
         exact o_v (r_lda agg_api_Arena q7 (vs:=(cArena d1 A4 c5 A7 c8)) rfl ((S18.fr (((G92.trans (Fr.ext F96)).trans (Fr.ext F106)).trans (Fr.ext F483o)) (fun _ h=>h)).now.part (n:=3) rfl)) (want_t (t:=73) rfl q73 (by rw [hx491]; exact (by rw [hx487]; exact hc117))) rfl rfl (eo_nil ⟨rfl,rfl,_,rfl,Fr.refl _ _,rfl⟩)
        ·intro ρ w483o F483o hS hρ
         have q15:ρ 15=.int .i64 (IntKind.i64.wrap ((Int.tmod (IntKind.i64.wrap d2) (8:Int)) + (1:Int))):=hρ 15 (by kernel_rfl)
         have q73:ρ 73=.bool (x491==(0:Int)):=hS 16 (by decide) 73 rfl
         exact o_v (r_mov q15) (want_t (t:=73) rfl q73 (by rw [hx491]; exact (by rw [hx487]; exact hc117))) rfl rfl (eo_nil ⟨rfl,rfl,_,rfl,Fr.refl _ _,rfl⟩)
        ·intro ρ w483o F483o hS hρ
         have q9:ρ 9=.pointer (some ⟨b22,0,none⟩):=hρ 9 (by kernel_rfl)
         have q73:ρ 73=.bool (x491==(0:Int)):=hS 16 (by decide) 73 rfl
         exact o_v (r_lda agg_api_Entry q9 (vs:=(cEnt d3 A10 c11 A13 c14)) rfl ((S22.fr (((G93.trans (Fr.ext F96)).trans (Fr.ext F106)).trans (Fr.ext F483o)) (fun _ h=>h)).now.part (n:=9) rfl)) (want_t (t:=73) rfl q73 (by rw [hx491]; exact (by rw [hx487]; exact hc117))) rfl rfl (eo_nil ⟨rfl,rfl,_,rfl,Fr.refl _ _,rfl⟩)
        ·intro ρ w483o F483o hS hρ
         have E575:=E108.trans F483o
         have q73:ρ 73=.bool (x491==(0:Int)):=hS 16 (by decide) 73 rfl
         have q74:ρ 74=.agg (cBuf d0 A1 c2).toArray:=hS 17 (by decide) 74 rfl
         have q75:ρ 75=.agg (cArena d1 A4 c5 A7 c8).toArray:=hS 18 (by decide) 75 rfl
         have q76:ρ 76=.int .i64 (IntKind.i64.wrap ((Int.tmod (IntKind.i64.wrap d2) (8:Int)) + (1:Int))):=hS 19 (by decide) 76 rfl
         have q77:ρ 77=.agg (cEnt d3 A10 c11 A13 c14).toArray:=hS 20 (by decide) 77 rfl
         refine o_call cf_buffer_Note (by simp only [List.map,ev,q74,q75,q76,q77] <;> rfl) (buffer_Note_c d0 (kBuf_mk (d:=d0) (H3.up (((G90.trans (Fr.ext F96)).trans (Fr.ext F106)).trans (Fr.ext F483o)) (fun _ h=>h) (upc (.inr m77) (fun _ h=>.inl h)))) d1 (kArena_mk (d:=d1) (H6.up (((G90.trans (Fr.ext F96)).trans (Fr.ext F106)).trans (Fr.ext F483o)) (fun _ h=>h) (upc (.inr m77) (fun _ h=>.inl h))) (H9.up (((G90.trans (Fr.ext F96)).trans (Fr.ext F106)).trans (Fr.ext F483o)) (fun _ h=>h) (upc (.inr m77) (fun _ h=>.inl h)))) (IntKind.i64.wrap ((Int.tmod (IntKind.i64.wrap d2) (8:Int)) + (1:Int))) d3 (kEnt_mk (d:=d3) (H12.up (((G90.trans (Fr.ext F96)).trans (Fr.ext F106)).trans (Fr.ext F483o)) (fun _ h=>h) (upc (.inr m77) (fun _ h=>.inl h))) (H15.up (((G90.trans (Fr.ext F96)).trans (Fr.ext F106)).trans (Fr.ext F483o)) (fun _ h=>h) (upc (.inr m77) (fun _ h=>.inl h)))) ((hL.fr E575).cons (((B88'.ex F96).ex F106).ex F483o).lt) (eq_ev hx494 (bufNote_ev d0 d1 (IntKind.i64.wrap ((Int.tmod (IntKind.i64.wrap d2) (8:Int)) + (1:Int))) d3 ha495 ha496))) (want_t (t:=73) rfl q73 (by rw [hx491]; exact (by rw [hx487]; exact hc117))) rfl ?_
         rintro _ w' ⟨F,cs582,rfl,H583⟩
         obtain ⟨A497,c498,rfl,H499⟩:=kBuf_open H583
         exact eo_nil ⟨rfl,rfl,_,rfl,F,⟨A497,c498,rfl,H499⟩⟩
        ·intro ρ w483o F483o hS hρ
         have q7:ρ 7=.pointer (some ⟨b18,0,none⟩):=hρ 7 (by kernel_rfl)
         have q73:ρ 73=.bool (x491==(0:Int)):=hS 16 (by decide) 73 rfl
         exact o_v (r_lda agg_api_Arena q7 (vs:=(cArena d1 A4 c5 A7 c8)) rfl ((S18.fr (((G92.trans (Fr.ext F96)).trans (Fr.ext F106)).trans (Fr.ext F483o)) (fun _ h=>h)).now.part (n:=3) rfl)) (want_t (t:=73) rfl q73 (by rw [hx491]; exact (by rw [hx487]; exact hc117))) rfl rfl (eo_nil ⟨rfl,rfl,_,rfl,Fr.refl _ _,rfl⟩)
        ·intro ρ w483o F483o hS hρ
         have q15:ρ 15=.int .i64 (IntKind.i64.wrap ((Int.tmod (IntKind.i64.wrap d2) (8:Int)) + (1:Int))):=hρ 15 (by kernel_rfl)
         have q73:ρ 73=.bool (x491==(0:Int)):=hS 16 (by decide) 73 rfl
         exact o_v (r_mov q15) (want_t (t:=73) rfl q73 (by rw [hx491]; exact (by rw [hx487]; exact hc117))) rfl rfl (eo_nil ⟨rfl,rfl,_,rfl,Fr.refl _ _,rfl⟩)
        ·intro ρ w483o F483o hS hρ
         have E591:=E108.trans F483o
         have q73:ρ 73=.bool (x491==(0:Int)):=hS 16 (by decide) 73 rfl
         obtain ⟨A497,c498,q78,H499⟩:=hS 21 (by decide) 78 rfl
         have q79:ρ 79=.agg (cArena d1 A4 c5 A7 c8).toArray:=hS 22 (by decide) 79 rfl
         have q80:ρ 80=.int .i64 (IntKind.i64.wrap ((Int.tmod (IntKind.i64.wrap d2) (8:Int)) + (1:Int))):=hS 23 (by decide) 80 rfl
         refine o_call cf_buffer_Check (by simp only [List.map,ev,q78,q79,q80] <;> rfl) (buffer_Check_c x494 (kBuf_mk (d:=x494) H499) d1 (kArena_mk (d:=d1) (H6.up (((G90.trans (Fr.ext F96)).trans (Fr.ext F106)).trans (Fr.ext F483o)) (fun _ h=>h) (upc (.inr m77) (fun _ h=>.inl h))) (H9.up (((G90.trans (Fr.ext F96)).trans (Fr.ext F106)).trans (Fr.ext F483o)) (fun _ h=>h) (upc (.inr m77) (fun _ h=>.inl h)))) (IntKind.i64.wrap ((Int.tmod (IntKind.i64.wrap d2) (8:Int)) + (1:Int))) ((hL.fr E591).cons (((B88'.ex F96).ex F106).ex F483o).lt) (eq_ev hx500 (bufCheck_ev x494 d1 (IntKind.i64.wrap ((Int.tmod (IntKind.i64.wrap d2) (8:Int)) + (1:Int))) ha501 ha502))) (want_t (t:=73) rfl q73 (by rw [hx491]; exact (by rw [hx487]; exact hc117))) rfl ?_
         rintro _ w' ⟨F,rfl⟩
         exact eo_nil ⟨rfl,rfl,_,rfl,F,rfl⟩
        ·intro ρ w483o F483o hS hρ
         have q73:ρ 73=.bool (x491==(0:Int)):=hS 16 (by decide) 73 rfl
         have q81:ρ 81=.int .i64 x500:=hS 24 (by decide) 81 rfl
         exact o_v (r_int q81 rfl rfl) (want_t (t:=73) rfl q73 (by rw [hx491]; exact (by rw [hx487]; exact hc117))) rfl rfl (eo_nil ⟨rfl,rfl,_,rfl,Fr.refl _ _,rfl⟩)
        ·intro ρ w483o F483o hS hρ
         have q73:ρ 73=.bool (x491==(0:Int)):=hS 16 (by decide) 73 rfl
         have q82:ρ 82=.bool (x500==(0:Int)):=hS 25 (by decide) 82 rfl
         exact o_q (r_pickT q73 (by rw [hx491]; exact (by rw [hx487]; exact hc117)) q82) ⟨Fr.refl _ _,rfl⟩
        ·intro ρ w483o F483o hS hρ
         have q83:ρ 83=.bool (x500==(0:Int)):=hS 26 (by decide) 83 rfl
         exact o_q (r_mov q83) ⟨Fr.refl _ _,rfl⟩
        ·intro ρ w483o F483o hS hρ
         have q6:ρ 6=.pointer (some ⟨b16,0,none⟩):=hρ 6 (by kernel_rfl)
         have q84:ρ 84=.bool (x500==(0:Int)):=hS 27 (by decide) 84 rfl
         exact o_no (want_f (t:=84) rfl q84 (by rw [hx500]; exact (by rw [hx494]; exact hc118))) rfl (eo_nil ⟨rfl,rfl,undef,rfl,Fr.refl _ _,rfl⟩)
        ·intro ρ w483o F483o hS hρ
         have q7:ρ 7=.pointer (some ⟨b18,0,none⟩):=hρ 7 (by kernel_rfl)
         have q84:ρ 84=.bool (x500==(0:Int)):=hS 27 (by decide) 84 rfl
         exact o_no (want_f (t:=84) rfl q84 (by rw [hx500]; exact (by rw [hx494]; exact hc118))) rfl (eo_nil ⟨rfl,rfl,undef,rfl,Fr.refl _ _,rfl⟩)
        ·intro ρ w483o F483o hS hρ
         have q15:ρ 15=.int .i64 (IntKind.i64.wrap ((Int.tmod (IntKind.i64.wrap d2) (8:Int)) + (1:Int))):=hρ 15 (by kernel_rfl)
         have q84:ρ 84=.bool (x500==(0:Int)):=hS 27 (by decide) 84 rfl
         exact o_no (want_f (t:=84) rfl q84 (by rw [hx500]; exact (by rw [hx494]; exact hc118))) rfl (eo_nil ⟨rfl,rfl,undef,rfl,Fr.refl _ _,rfl⟩)
        ·intro ρ w483o F483o hS hρ
         have q84:ρ 84=.bool (x500==(0:Int)):=hS 27 (by decide) 84 rfl
         exact o_no (want_f (t:=84) rfl q84 (by rw [hx500]; exact (by rw [hx494]; exact hc118))) rfl (eo_nil ⟨rfl,rfl,undef,rfl,Fr.refl _ _,rfl⟩)
        ·intro ρ w483o F483o hS hρ
         have q84:ρ 84=.bool (x500==(0:Int)):=hS 27 (by decide) 84 rfl
         exact o_no (want_f (t:=84) rfl q84 (by rw [hx500]; exact (by rw [hx494]; exact hc118))) rfl (eo_nil ⟨rfl,rfl,undef,rfl,Fr.refl _ _,rfl⟩)
        ·intro ρ w483o F483o hS hρ
         have q84:ρ 84=.bool (x500==(0:Int)):=hS 27 (by decide) 84 rfl
         exact o_no (want_f (t:=84) rfl q84 (by rw [hx500]; exact (by rw [hx494]; exact hc118))) rfl (eo_nil ⟨rfl,rfl,undef,rfl,Fr.refl _ _,rfl⟩)
        ·intro ρ w483o F483o hS hρ
         have q7:ρ 7=.pointer (some ⟨b18,0,none⟩):=hρ 7 (by kernel_rfl)
         have q84:ρ 84=.bool (x500==(0:Int)):=hS 27 (by decide) 84 rfl
         exact o_no (want_f (t:=84) rfl q84 (by rw [hx500]; exact (by rw [hx494]; exact hc118))) rfl (eo_nil ⟨rfl,rfl,undef,rfl,Fr.refl _ _,rfl⟩)
        ·intro ρ w483o F483o hS hρ
         have q15:ρ 15=.int .i64 (IntKind.i64.wrap ((Int.tmod (IntKind.i64.wrap d2) (8:Int)) + (1:Int))):=hρ 15 (by kernel_rfl)
         have q84:ρ 84=.bool (x500==(0:Int)):=hS 27 (by decide) 84 rfl
         exact o_no (want_f (t:=84) rfl q84 (by rw [hx500]; exact (by rw [hx494]; exact hc118))) rfl (eo_nil ⟨rfl,rfl,undef,rfl,Fr.refl _ _,rfl⟩)
        ·intro ρ w483o F483o hS hρ
         have q84:ρ 84=.bool (x500==(0:Int)):=hS 27 (by decide) 84 rfl
         exact o_no (want_f (t:=84) rfl q84 (by rw [hx500]; exact (by rw [hx494]; exact hc118))) rfl (eo_nil ⟨rfl,rfl,undef,rfl,Fr.refl _ _,rfl⟩)
        ·intro ρ w483o F483o hS hρ
         have q84:ρ 84=.bool (x500==(0:Int)):=hS 27 (by decide) 84 rfl
         exact o_no (want_f (t:=84) rfl q84 (by rw [hx500]; exact (by rw [hx494]; exact hc118))) rfl (eo_nil ⟨rfl,rfl,undef,rfl,Fr.refl _ _,rfl⟩)
        ·intro ρ w483o F483o hS hρ
         have q84:ρ 84=.bool (x500==(0:Int)):=hS 27 (by decide) 84 rfl
         exact o_q (r_pickF q84 (by rw [hx500]; exact (by rw [hx494]; exact hc118)) rfl) ⟨Fr.refl _ _,rfl⟩
        ·intro ρ w483o F483o hS hρ
         have q95:ρ 95=.bool false:=hS 38 (by decide) 95 rfl
         exact o_q (r_mov q95) ⟨Fr.refl _ _,rfl⟩
        ·intro ρ w483o F483o hS hρ
         have q6:ρ 6=.pointer (some ⟨b16,0,none⟩):=hρ 6 (by kernel_rfl)
         have q96:ρ 96=.bool false:=hS 39 (by decide) 96 rfl
         exact o_no (want_f (t:=96) rfl q96 rfl) rfl (eo_nil ⟨rfl,rfl,undef,rfl,Fr.refl _ _,rfl⟩)
        ·intro ρ w483o F483o hS hρ
         have q7:ρ 7=.pointer (some ⟨b18,0,none⟩):=hρ 7 (by kernel_rfl)
         have q96:ρ 96=.bool false:=hS 39 (by decide) 96 rfl
         exact o_no (want_f (t:=96) rfl q96 rfl) rfl (eo_nil ⟨rfl,rfl,undef,rfl,Fr.refl _ _,rfl⟩)
        ·intro ρ w483o F483o hS hρ
         have q15:ρ 15=.int .i64 (IntKind.i64.wrap ((Int.tmod (IntKind.i64.wrap d2) (8:Int)) + (1:Int))):=hρ 15 (by kernel_rfl)
         have q96:ρ 96=.bool false:=hS 39 (by decide) 96 rfl
         exact o_no (want_f (t:=96) rfl q96 rfl) rfl (eo_nil ⟨rfl,rfl,undef,rfl,Fr.refl _ _,rfl⟩)
        ·intro ρ w483o F483o hS hρ
         have q96:ρ 96=.bool false:=hS 39 (by decide) 96 rfl
         exact o_no (want_f (t:=96) rfl q96 rfl) rfl (eo_nil ⟨rfl,rfl,undef,rfl,Fr.refl _ _,rfl⟩)
        ·intro ρ w483o F483o hS hρ
         have q96:ρ 96=.bool false:=hS 39 (by decide) 96 rfl
         exact o_no (want_f (t:=96) rfl q96 rfl) rfl (eo_nil ⟨rfl,rfl,undef,rfl,Fr.refl _ _,rfl⟩)
        ·intro ρ w483o F483o hS hρ
         have q96:ρ 96=.bool false:=hS 39 (by decide) 96 rfl
         exact o_no (want_f (t:=96) rfl q96 rfl) rfl (eo_nil ⟨rfl,rfl,undef,rfl,Fr.refl _ _,rfl⟩)
        ·intro ρ w483o F483o hS hρ
         have q15:ρ 15=.int .i64 (IntKind.i64.wrap ((Int.tmod (IntKind.i64.wrap d2) (8:Int)) + (1:Int))):=hρ 15 (by kernel_rfl)
         have q96:ρ 96=.bool false:=hS 39 (by decide) 96 rfl
         exact o_no (want_f (t:=96) rfl q96 rfl) rfl (eo_nil ⟨rfl,rfl,undef,rfl,Fr.refl _ _,rfl⟩)
        ·intro ρ w483o F483o hS hρ
         have q96:ρ 96=.bool false:=hS 39 (by decide) 96 rfl
         exact o_no (want_f (t:=96) rfl q96 rfl) rfl (eo_nil ⟨rfl,rfl,undef,rfl,Fr.refl _ _,rfl⟩)
        ·intro ρ w483o F483o hS hρ
         have q96:ρ 96=.bool false:=hS 39 (by decide) 96 rfl
         exact o_q (r_pickF q96 rfl rfl) ⟨Fr.refl _ _,rfl⟩
        ·intro ρ w483o F483o hS hρ
         have q105:ρ 105=.bool false:=hS 48 (by decide) 105 rfl
         exact o_q (r_asg q105) ⟨Fr.refl _ _,rfl⟩
       ·intro ρ w483 F483 hS hρ
        have q12:ρ 12=.bool false:=hS 49 12 rfl
        obtain ⟨ρ',rfl⟩:∃ ρ',ρ=envs (ovr [12,57,58,59,60,61,62,63,64,65,66,67,68,69,70,71,72,73,74,75,76,77,78,79,80,81,82,83,84,85,86,87,88,89,90,91,92,93,94,95,96,97,98,99,100,101,102,103,104,105] ρ' _) [(12,.bool false)]:=⟨ρ,ovr_self hρ ⟨q12,trivial⟩⟩
        have E598:=E108.trans F483
        refine sq_n ?_
        refine ec_ret ?_
        subst h
        exact (end1 rfl ⟨_,rfl,E598,rfl⟩)
     ·replace h:=h.2 hc117
      obtain ⟨ha607,h⟩:=h
      obtain ⟨ha608,h⟩:=h
      obtain ⟨x606,hx606,h⟩:=h
      obtain ⟨x609,hx609,h⟩:=h
      obtain ⟨ha614,h⟩:=h
      obtain ⟨ha615,h⟩:=h
      obtain ⟨x613,hx613,h⟩:=h
      refine ec_any0 (by kernel_rfl) [[],[0],[0,1],[0,1],[0,1],[0,1,2,3,4],[0,1,2,3,4,5],[0,1,2,3,4,5,6],[0,1,2,3,4,5,6,7],[0,1,2,3,4,5,6,7,8],[0,1,2,3,4,5,6,7,8,9],[0,1,2,3,4,5,6,7,8],[0,1,2,3,4,5,6,7,8],[0,1,2,3,4,5,6,7,8,9,10,11,12],[0,1,2,3,4,5,6,7,8,9,10,11,12,13],[0,1,2,3,4,5,6,7,8,9,10,11,12,13,14],[0,1,2,3,4,5,6,7,8,9,10,11,12,13,14,15],[0,1,2,3,4,5,6,7,8,9,10,11,12,13,14,15,16],[0,1,2,3,4,5,6,7,8,9,10,11,12,13,14,15,16],[0,1,2,3,4,5,6,7,8,9,10,11,12,13,14,15,16],[0,1,2,3,4,5,6,7,8,9,10,11,12,13,14,15,16],[0,1,2,3,4,5,6,7,8,9,10,11,12,13,14,15,16,17,18,19,20],[0,1,2,3,4,5,6,7,8,9,10,11,12,13,14,15,16],[0,1,2,3,4,5,6,7,8,9,10,11,12,13,14,15,16],[0,1,2,3,4,5,6,7,8,9,10,11,12,13,14,15,16,17,18,19,20,21,22,23],[0,1,2,3,4,5,6,7,8,9,10,11,12,13,14,15,16,17,18,19,20,21,22,23,24],[0,1,2,3,4,5,6,7,8,9,10,11,12,13,14,15,16,17,18,19,20,21,22,23,24,25],[0,1,2,3,4,5,6,7,8,9,10,11,12,13,14,15,16,17,18,19,20,21,22,23,24,25,26],[0,1,2,3,4,5,6,7,8,9,10,11,12,13,14,15,16,17,18,19,20,21,22,23,24,25,26,27],[0,1,2,3,4,5,6,7,8,9,10,11,12,13,14,15,16,17,18,19,20,21,22,23,24,25,26,27],[0,1,2,3,4,5,6,7,8,9,10,11,12,13,14,15,16,17,18,19,20,21,22,23,24,25,26,27],[0,1,2,3,4,5,6,7,8,9,10,11,12,13,14,15,16,17,18,19,20,21,22,23,24,25,26,27],[0,1,2,3,4,5,6,7,8,9,10,11,12,13,14,15,16,17,18,19,20,21,22,23,24,25,26,27],[0,1,2,3,4,5,6,7,8,9,10,11,12,13,14,15,16,17,18,19,20,21,22,23,24,25,26,27,28,29,30,31,32],[0,1,2,3,4,5,6,7,8,9,10,11,12,13,14,15,16,17,18,19,20,21,22,23,24,25,26,27],[0,1,2,3,4,5,6,7,8,9,10,11,12,13,14,15,16,17,18,19,20,21,22,23,24,25,26,27],[0,1,2,3,4,5,6,7,8,9,10,11,12,13,14,15,16,17,18,19,20,21,22,23,24,25,26,27,28,29,30,31,32,33,34,35],[0,1,2,3,4,5,6,7,8,9,10,11,12,13,14,15,16,17,18,19,20,21,22,23,24,25,26,27,28,29,30,31,32,33,34,35,36],[0,1,2,3,4,5,6,7,8,9,10,11,12,13,14,15,16,17,18,19,20,21,22,23,24,25,26,27,28,29,30,31,32,33,34,35,36,37],[0,1,2,3,4,5,6,7,8,9,10,11,12,13,14,15,16,17,18,19,20,21,22,23,24,25,26,27,28,29,30,31,32,33,34,35,36,37,38],[0,1,2,3,4,5,6,7,8,9,10,11,12,13,14,15,16,17,18,19,20,21,22,23,24,25,26,27,28,29,30,31,32,33,34,35,36,37,38,39],[0,1,2,3,4,5,6,7,8,9,10,11,12,13,14,15,16,17,18,19,20,21,22,23,24,25,26,27,28,29,30,31,32,33,34,35,36,37,38,39],[0,1,2,3,4,5,6,7,8,9,10,11,12,13,14,15,16,17,18,19,20,21,22,23,24,25,26,27,28,29,30,31,32,33,34,35,36,37,38,39],[0,1,2,3,4,5,6,7,8,9,10,11,12,13,14,15,16,17,18,19,20,21,22,23,24,25,26,27,28,29,30,31,32,33,34,35,36,37,38,39],[0,1,2,3,4,5,6,7,8,9,10,11,12,13,14,15,16,17,18,19,20,21,22,23,24,25,26,27,28,29,30,31,32,33,34,35,36,37,38,39,40,41,42,43],[0,1,2,3,4,5,6,7,8,9,10,11,12,13,14,15,16,17,18,19,20,21,22,23,24,25,26,27,28,29,30,31,32,33,34,35,36,37,38,39,40,41,42,43,44],[0,1,2,3,4,5,6,7,8,9,10,11,12,13,14,15,16,17,18,19,20,21,22,23,24,25,26,27,28,29,30,31,32,33,34,35,36,37,38,39],[0,1,2,3,4,5,6,7,8,9,10,11,12,13,14,15,16,17,18,19,20,21,22,23,24,25,26,27,28,29,30,31,32,33,34,35,36,37,38,39,40,41,42,43,44,45,46],[0,1,2,3,4,5,6,7,8,9,10,11,12,13,14,15,16,17,18,19,20,21,22,23,24,25,26,27,28,29,30,31,32,33,34,35,36,37,38,39,40,41,42,43,44,45,46,47],[0,1,2,3,4,5,6,7,8,9,10,11,12,13,14,15,16,17,18,19,20,21,22,23,24,25,26,27,28,29,30,31,32,33,34,35,36,37,38,39,40,41,42,43,44,45,46,47,48]] [12,57,58,59,60,61,62,63,64,65,66,67,68,69,70,71,72,73,74,75,76,77,78,79,80,81,82,83,84,85,86,87,88,89,90,91,92,93,94,95,96,97,98,99,100,101,102,103,104,105] [fun v _=>v=(.bool (worksV):Value),fun v _=>v=(.bool (worksV):Value),fun v _=>v=(.agg (cBuf x63 A73 c74).toArray:Value),fun v _=>v=(.agg (cArena d1 A4 c5 A7 c8).toArray:Value),fun v _=>v=(.int .i64 (IntKind.i64.wrap ((Int.tmod (IntKind.i64.wrap d2) (8:Int)) + (1:Int))):Value),fun v _=>v=(.int .i64 x606:Value),fun v _=>v=(.bool (x606==(0:Int)):Value),fun v _=>v=(.bool (x606==(0:Int)):Value),fun v _=>v=(.bool (x606==(0:Int)):Value),fun v _=>v=(.agg (cBuf d0 A1 c2).toArray:Value),fun v w'=>∃ A610 c611,v=(.agg (cBuf x609 A610 c611).toArray:Value)∧Stb (b76::L) w' (fun w=>SlC kNm w A610 c611 x609.names),fun v _=>v=(.agg (cArena d1 A4 c5 A7 c8).toArray:Value),fun v _=>v=(.int .i64 (IntKind.i64.wrap ((Int.tmod (IntKind.i64.wrap d2) (8:Int)) + (1:Int))):Value),fun v _=>v=(.int .i64 x613:Value),fun v _=>v=(.bool (x613==(0:Int)):Value),fun v _=>v=(.bool (x613==(0:Int)):Value),fun v _=>v=(.bool (x613==(0:Int)):Value),fun v _=>v=((undef:Value):Value),fun v _=>v=((undef:Value):Value),fun v _=>v=((undef:Value):Value),fun v _=>v=((undef:Value):Value),fun v _=>v=((undef:Value):Value),fun v _=>v=((undef:Value):Value),fun v _=>v=((undef:Value):Value),fun v _=>v=((undef:Value):Value),fun v _=>v=((undef:Value):Value),fun v _=>v=(.bool false:Value),fun v _=>v=(.bool false:Value),fun v _=>v=((undef:Value):Value),fun v _=>v=((undef:Value):Value),fun v _=>v=((undef:Value):Value),fun v _=>v=((undef:Value):Value),fun v _=>v=((undef:Value):Value),fun v _=>v=((undef:Value):Value),fun v _=>v=((undef:Value):Value),fun v _=>v=((undef:Value):Value),fun v _=>v=((undef:Value):Value),fun v _=>v=((undef:Value):Value),fun v _=>v=(.bool false:Value),fun v _=>v=(.bool false:Value),fun v _=>v=((undef:Value):Value),fun v _=>v=((undef:Value):Value),fun v _=>v=((undef:Value):Value),fun v _=>v=((undef:Value):Value),fun v _=>v=((undef:Value):Value),fun v _=>v=((undef:Value):Value),fun v _=>v=((undef:Value):Value),fun v _=>v=((undef:Value):Value),fun v _=>v=(.bool false:Value),fun v _=>v=(.bool false:Value)] (by kernel_rfl) ⟨fun _ _ _ _ _ h=>h,fun _ _ _ _ _ h=>h,fun _ _ _ _ _ h=>h,fun _ _ _ _ _ h=>h,fun _ _ _ _ _ h=>h,fun _ _ _ _ _ h=>h,fun _ _ _ _ _ h=>h,fun _ _ _ _ _ h=>h,fun _ _ _ _ _ h=>h,fun _ _ _ _ _ h=>h,fun _ v w' w'' F h=>by obtain ⟨A610,c611,hv,H612⟩:=h; exact ⟨A610,c611,hv,(H612.ex F)⟩,fun _ _ _ _ _ h=>h,fun _ _ _ _ _ h=>h,fun _ _ _ _ _ h=>h,fun _ _ _ _ _ h=>h,fun _ _ _ _ _ h=>h,fun _ _ _ _ _ h=>h,fun _ _ _ _ _ h=>h,fun _ _ _ _ _ h=>h,fun _ _ _ _ _ h=>h,fun _ _ _ _ _ h=>h,fun _ _ _ _ _ h=>h,fun _ _ _ _ _ h=>h,fun _ _ _ _ _ h=>h,fun _ _ _ _ _ h=>h,fun _ _ _ _ _ h=>h,fun _ _ _ _ _ h=>h,fun _ _ _ _ _ h=>h,fun _ _ _ _ _ h=>h,fun _ _ _ _ _ h=>h,fun _ _ _ _ _ h=>h,fun _ _ _ _ _ h=>h,fun _ _ _ _ _ h=>h,fun _ _ _ _ _ h=>h,fun _ _ _ _ _ h=>h,fun _ _ _ _ _ h=>h,fun _ _ _ _ _ h=>h,fun _ _ _ _ _ h=>h,fun _ _ _ _ _ h=>h,fun _ _ _ _ _ h=>h,fun _ _ _ _ _ h=>h,fun _ _ _ _ _ h=>h,fun _ _ _ _ _ h=>h,fun _ _ _ _ _ h=>h,fun _ _ _ _ _ h=>h,fun _ _ _ _ _ h=>h,fun _ _ _ _ _ h=>h,fun _ _ _ _ _ h=>h,fun _ _ _ _ _ h=>h,fun _ _ _ _ _ h=>h,trivial⟩ ?_ ?_
      ·refine ⟨?_,?_,?_,?_,?_,?_,?_,?_,?_,?_,?_,?_,?_,?_,?_,?_,?_,?_,?_,?_,?_,?_,?_,?_,?_,?_,?_,?_,?_,?_,?_,?_,?_,?_,?_,?_,?_,?_,?_,?_,?_,?_,?_,?_,?_,?_,?_,?_,?_,?_,trivial⟩
       ·intro ρ w605o F605o hS hρ
        have q13:ρ 13=.bool (worksV):=hρ 13 (by kernel_rfl)
        exact o_q (r_mov q13) ⟨Fr.refl _ _,rfl⟩
       ·intro ρ w605o F605o hS hρ
        have q57:ρ 57=.bool (worksV):=hS 0 (by decide) 57 rfl
        exact o_q (r_mov q57) ⟨Fr.refl _ _,rfl⟩
       ·intro ρ w605o F605o hS hρ
        have q16:ρ 16=.pointer (some ⟨b76,0,none⟩):=hρ 16 (by kernel_rfl)
        have q58:ρ 58=.bool (worksV):=hS 1 (by decide) 58 rfl
        exact o_v (r_lda agg_buffer_Buffer q16 (vs:=(cBuf x63 A73 c74)) rfl ((((B88'.ex F96).ex F106).ex F605o).part (n:=3) rfl)) (want_t (t:=58) rfl q58 (of_not hc33)) rfl rfl (eo_nil ⟨rfl,rfl,_,rfl,Fr.refl _ _,rfl⟩)
       ·intro ρ w605o F605o hS hρ
        have q7:ρ 7=.pointer (some ⟨b18,0,none⟩):=hρ 7 (by kernel_rfl)
        have q58:ρ 58=.bool (worksV):=hS 1 (by decide) 58 rfl
        exact o_v (r_lda agg_api_Arena q7 (vs:=(cArena d1 A4 c5 A7 c8)) rfl ((S18.fr (((G92.trans (Fr.ext F96)).trans (Fr.ext F106)).trans (Fr.ext F605o)) (fun _ h=>h)).now.part (n:=3) rfl)) (want_t (t:=58) rfl q58 (of_not hc33)) rfl rfl (eo_nil ⟨rfl,rfl,_,rfl,Fr.refl _ _,rfl⟩)
       ·intro ρ w605o F605o hS hρ
        have q15:ρ 15=.int .i64 (IntKind.i64.wrap ((Int.tmod (IntKind.i64.wrap d2) (8:Int)) + (1:Int))):=hρ 15 (by kernel_rfl)
        have q58:ρ 58=.bool (worksV):=hS 1 (by decide) 58 rfl
        exact o_v (r_mov q15) (want_t (t:=58) rfl q58 (of_not hc33)) rfl rfl (eo_nil ⟨rfl,rfl,_,rfl,Fr.refl _ _,rfl⟩)
       ·intro ρ w605o F605o hS hρ
        have E630:=E108.trans F605o
        have q58:ρ 58=.bool (worksV):=hS 1 (by decide) 58 rfl
        have q59:ρ 59=.agg (cBuf x63 A73 c74).toArray:=hS 2 (by decide) 59 rfl
        have q60:ρ 60=.agg (cArena d1 A4 c5 A7 c8).toArray:=hS 3 (by decide) 60 rfl
        have q61:ρ 61=.int .i64 (IntKind.i64.wrap ((Int.tmod (IntKind.i64.wrap d2) (8:Int)) + (1:Int))):=hS 4 (by decide) 61 rfl
        refine o_call cf_buffer_Check (by simp only [List.map,ev,q59,q60,q61] <;> rfl) (buffer_Check_c x63 (kBuf_mk (d:=x63) (H75.up (((G94.trans (Fr.ext F96)).trans (Fr.ext F106)).trans (Fr.ext F605o)) (fun _ h=>h) (upc (.inr m81) (fun _ h=>.inl h)))) d1 (kArena_mk (d:=d1) (H6.up (((G90.trans (Fr.ext F96)).trans (Fr.ext F106)).trans (Fr.ext F605o)) (fun _ h=>h) (upc (.inr m77) (fun _ h=>.inl h))) (H9.up (((G90.trans (Fr.ext F96)).trans (Fr.ext F106)).trans (Fr.ext F605o)) (fun _ h=>h) (upc (.inr m77) (fun _ h=>.inl h)))) (IntKind.i64.wrap ((Int.tmod (IntKind.i64.wrap d2) (8:Int)) + (1:Int))) ((hL.fr E630).cons (((B88'.ex F96).ex F106).ex F605o).lt) (eq_ev hx606 (bufCheck_ev x63 d1 (IntKind.i64.wrap ((Int.tmod (IntKind.i64.wrap d2) (8:Int)) + (1:Int))) ha607 ha608))) (want_t (t:=58) rfl q58 (of_not hc33)) rfl ?_
        rintro _ w' ⟨F,rfl⟩
        exact eo_nil ⟨rfl,rfl,_,rfl,F,rfl⟩
       ·intro ρ w605o F605o hS hρ
        have q58:ρ 58=.bool (worksV):=hS 1 (by decide) 58 rfl
        have q62:ρ 62=.int .i64 x606:=hS 5 (by decide) 62 rfl
        exact o_v (r_int q62 rfl rfl) (want_t (t:=58) rfl q58 (of_not hc33)) rfl rfl (eo_nil ⟨rfl,rfl,_,rfl,Fr.refl _ _,rfl⟩)
       ·intro ρ w605o F605o hS hρ
        have q58:ρ 58=.bool (worksV):=hS 1 (by decide) 58 rfl
        have q63:ρ 63=.bool (x606==(0:Int)):=hS 6 (by decide) 63 rfl
        exact o_q (r_pickT q58 (of_not hc33) q63) ⟨Fr.refl _ _,rfl⟩
       ·intro ρ w605o F605o hS hρ
        have q64:ρ 64=.bool (x606==(0:Int)):=hS 7 (by decide) 64 rfl
        exact o_q (r_mov q64) ⟨Fr.refl _ _,rfl⟩
       ·intro ρ w605o F605o hS hρ
        have q6:ρ 6=.pointer (some ⟨b16,0,none⟩):=hρ 6 (by kernel_rfl)
        have q65:ρ 65=.bool (x606==(0:Int)):=hS 8 (by decide) 65 rfl
        exact o_v (r_lda agg_buffer_Buffer q6 (vs:=(cBuf d0 A1 c2)) rfl ((S16.fr (((G91.trans (Fr.ext F96)).trans (Fr.ext F106)).trans (Fr.ext F605o)) (fun _ h=>h)).now.part (n:=3) rfl)) (want_t (t:=65) rfl q65 (by rw [hx606]; exact hc116)) rfl rfl (eo_nil ⟨rfl,rfl,_,rfl,Fr.refl _ _,rfl⟩)
       ·intro ρ w605o F605o hS hρ
        have E644:=E108.trans F605o
        have q65:ρ 65=.bool (x606==(0:Int)):=hS 8 (by decide) 65 rfl
        have q66:ρ 66=.agg (cBuf d0 A1 c2).toArray:=hS 9 (by decide) 66 rfl
        refine o_call cf_buffer_Reset (by simp only [List.map,ev,q66] <;> rfl) (buffer_Reset_c d0 (kBuf_mk (d:=d0) (H3.up (((G90.trans (Fr.ext F96)).trans (Fr.ext F106)).trans (Fr.ext F605o)) (fun _ h=>h) (upc (.inr m77) (fun _ h=>.inl h)))) ((hL.fr E644).cons (((B88'.ex F96).ex F106).ex F605o).lt) (eq_ev hx609 (bufReset_ev d0))) (want_t (t:=65) rfl q65 (by rw [hx606]; exact hc116)) rfl ?_
        rintro _ w' ⟨F,cs651,rfl,H652⟩
        obtain ⟨A610,c611,rfl,H612⟩:=kBuf_open H652
        exact eo_nil ⟨rfl,rfl,_,rfl,F,⟨A610,c611,rfl,H612⟩⟩
       ·intro ρ w605o F605o hS hρ
        have q7:ρ 7=.pointer (some ⟨b18,0,none⟩):=hρ 7 (by kernel_rfl)
        have q65:ρ 65=.bool (x606==(0:Int)):=hS 8 (by decide) 65 rfl
        exact o_v (r_lda agg_api_Arena q7 (vs:=(cArena d1 A4 c5 A7 c8)) rfl ((S18.fr (((G92.trans (Fr.ext F96)).trans (Fr.ext F106)).trans (Fr.ext F605o)) (fun _ h=>h)).now.part (n:=3) rfl)) (want_t (t:=65) rfl q65 (by rw [hx606]; exact hc116)) rfl rfl (eo_nil ⟨rfl,rfl,_,rfl,Fr.refl _ _,rfl⟩)
       ·intro ρ w605o F605o hS hρ
        have q15:ρ 15=.int .i64 (IntKind.i64.wrap ((Int.tmod (IntKind.i64.wrap d2) (8:Int)) + (1:Int))):=hρ 15 (by kernel_rfl)
        have q65:ρ 65=.bool (x606==(0:Int)):=hS 8 (by decide) 65 rfl
        exact o_v (r_mov q15) (want_t (t:=65) rfl q65 (by rw [hx606]; exact hc116)) rfl rfl (eo_nil ⟨rfl,rfl,_,rfl,Fr.refl _ _,rfl⟩)
       ·intro ρ w605o F605o hS hρ
        have E660:=E108.trans F605o
        have q65:ρ 65=.bool (x606==(0:Int)):=hS 8 (by decide) 65 rfl
        obtain ⟨A610,c611,q67,H612⟩:=hS 10 (by decide) 67 rfl
        have q68:ρ 68=.agg (cArena d1 A4 c5 A7 c8).toArray:=hS 11 (by decide) 68 rfl
        have q69:ρ 69=.int .i64 (IntKind.i64.wrap ((Int.tmod (IntKind.i64.wrap d2) (8:Int)) + (1:Int))):=hS 12 (by decide) 69 rfl
        refine o_call cf_buffer_Check (by simp only [List.map,ev,q67,q68,q69] <;> rfl) (buffer_Check_c x609 (kBuf_mk (d:=x609) H612) d1 (kArena_mk (d:=d1) (H6.up (((G90.trans (Fr.ext F96)).trans (Fr.ext F106)).trans (Fr.ext F605o)) (fun _ h=>h) (upc (.inr m77) (fun _ h=>.inl h))) (H9.up (((G90.trans (Fr.ext F96)).trans (Fr.ext F106)).trans (Fr.ext F605o)) (fun _ h=>h) (upc (.inr m77) (fun _ h=>.inl h)))) (IntKind.i64.wrap ((Int.tmod (IntKind.i64.wrap d2) (8:Int)) + (1:Int))) ((hL.fr E660).cons (((B88'.ex F96).ex F106).ex F605o).lt) (eq_ev hx613 (bufCheck_ev x609 d1 (IntKind.i64.wrap ((Int.tmod (IntKind.i64.wrap d2) (8:Int)) + (1:Int))) ha614 ha615))) (want_t (t:=65) rfl q65 (by rw [hx606]; exact hc116)) rfl ?_
        rintro _ w' ⟨F,rfl⟩
        exact eo_nil ⟨rfl,rfl,_,rfl,F,rfl⟩
       ·intro ρ w605o F605o hS hρ
        have q65:ρ 65=.bool (x606==(0:Int)):=hS 8 (by decide) 65 rfl
        have q70:ρ 70=.int .i64 x613:=hS 13 (by decide) 70 rfl
        exact o_v (r_int q70 rfl rfl) (want_t (t:=65) rfl q65 (by rw [hx606]; exact hc116)) rfl rfl (eo_nil ⟨rfl,rfl,_,rfl,Fr.refl _ _,rfl⟩)
       ·intro ρ w605o F605o hS hρ
        have q65:ρ 65=.bool (x606==(0:Int)):=hS 8 (by decide) 65 rfl
        have q71:ρ 71=.bool (x613==(0:Int)):=hS 14 (by decide) 71 rfl
        exact o_q (r_pickT q65 (by rw [hx606]; exact hc116) q71) ⟨Fr.refl _ _,rfl⟩
       ·intro ρ w605o F605o hS hρ
        have q72:ρ 72=.bool (x613==(0:Int)):=hS 15 (by decide) 72 rfl
        exact o_q (r_mov q72) ⟨Fr.refl _ _,rfl⟩
       ·intro ρ w605o F605o hS hρ
        have q73:ρ 73=.bool (x613==(0:Int)):=hS 16 (by decide) 73 rfl
        exact o_no (want_f (t:=73) rfl q73 (by rw [hx613]; exact (by rw [hx609]; exact hc117))) rfl (eo_nil ⟨rfl,rfl,undef,rfl,Fr.refl _ _,rfl⟩)
       ·intro ρ w605o F605o hS hρ
        have q7:ρ 7=.pointer (some ⟨b18,0,none⟩):=hρ 7 (by kernel_rfl)
        have q73:ρ 73=.bool (x613==(0:Int)):=hS 16 (by decide) 73 rfl
        exact o_no (want_f (t:=73) rfl q73 (by rw [hx613]; exact (by rw [hx609]; exact hc117))) rfl (eo_nil ⟨rfl,rfl,undef,rfl,Fr.refl _ _,rfl⟩)
       ·intro ρ w605o F605o hS hρ
        have q15:ρ 15=.int .i64 (IntKind.i64.wrap ((Int.tmod (IntKind.i64.wrap d2) (8:Int)) + (1:Int))):=hρ 15 (by kernel_rfl)
        have q73:ρ 73=.bool (x613==(0:Int)):=hS 16 (by decide) 73 rfl
        exact o_no (want_f (t:=73) rfl q73 (by rw [hx613]; exact (by rw [hx609]; exact hc117))) rfl (eo_nil ⟨rfl,rfl,undef,rfl,Fr.refl _ _,rfl⟩)
       ·intro ρ w605o F605o hS hρ
        have q73:ρ 73=.bool (x613==(0:Int)):=hS 16 (by decide) 73 rfl
        exact o_no (want_f (t:=73) rfl q73 (by rw [hx613]; exact (by rw [hx609]; exact hc117))) rfl (eo_nil ⟨rfl,rfl,undef,rfl,Fr.refl _ _,rfl⟩)
       ·intro ρ w605o F605o hS hρ
        have q73:ρ 73=.bool (x613==(0:Int)):=hS 16 (by decide) 73 rfl
        exact o_no (want_f (t:=73) rfl q73 (by rw [hx613]; exact (by rw [hx609]; exact hc117))) rfl (eo_nil ⟨rfl,rfl,undef,rfl,Fr.refl _ _,rfl⟩)
       ·intro ρ w605o F605o hS hρ
        have q7:ρ 7=.pointer (some ⟨b18,0,none⟩):=hρ 7 (by kernel_rfl)
        have q73:ρ 73=.bool (x613==(0:Int)):=hS 16 (by decide) 73 rfl
        exact o_no (want_f (t:=73) rfl q73 (by rw [hx613]; exact (by rw [hx609]; exact hc117))) rfl (eo_nil ⟨rfl,rfl,undef,rfl,Fr.refl _ _,rfl⟩)
       ·intro ρ w605o F605o hS hρ
        have q15:ρ 15=.int .i64 (IntKind.i64.wrap ((Int.tmod (IntKind.i64.wrap d2) (8:Int)) + (1:Int))):=hρ 15 (by kernel_rfl)
        have q73:ρ 73=.bool (x613==(0:Int)):=hS 16 (by decide) 73 rfl
        exact o_no (want_f (t:=73) rfl q73 (by rw [hx613]; exact (by rw [hx609]; exact hc117))) rfl (eo_nil ⟨rfl,rfl,undef,rfl,Fr.refl _ _,rfl⟩)
       ·intro ρ w605o F605o hS hρ
        have q73:ρ 73=.bool (x613==(0:Int)):=hS 16 (by decide) 73 rfl
        exact o_no (want_f (t:=73) rfl q73 (by rw [hx613]; exact (by rw [hx609]; exact hc117))) rfl (eo_nil ⟨rfl,rfl,undef,rfl,Fr.refl _ _,rfl⟩)
       ·intro ρ w605o F605o hS hρ
        have q73:ρ 73=.bool (x613==(0:Int)):=hS 16 (by decide) 73 rfl
        exact o_no (want_f (t:=73) rfl q73 (by rw [hx613]; exact (by rw [hx609]; exact hc117))) rfl (eo_nil ⟨rfl,rfl,undef,rfl,Fr.refl _ _,rfl⟩)
       ·intro ρ w605o F605o hS hρ
        have q73:ρ 73=.bool (x613==(0:Int)):=hS 16 (by decide) 73 rfl
        exact o_q (r_pickF q73 (by rw [hx613]; exact (by rw [hx609]; exact hc117)) rfl) ⟨Fr.refl _ _,rfl⟩
       ·intro ρ w605o F605o hS hρ
        have q83:ρ 83=.bool false:=hS 26 (by decide) 83 rfl
        exact o_q (r_mov q83) ⟨Fr.refl _ _,rfl⟩
       ·intro ρ w605o F605o hS hρ
        have q84:ρ 84=.bool false:=hS 27 (by decide) 84 rfl
        exact o_no (want_f (t:=84) rfl q84 rfl) rfl (eo_nil ⟨rfl,rfl,undef,rfl,Fr.refl _ _,rfl⟩)
       ·intro ρ w605o F605o hS hρ
        have q7:ρ 7=.pointer (some ⟨b18,0,none⟩):=hρ 7 (by kernel_rfl)
        have q84:ρ 84=.bool false:=hS 27 (by decide) 84 rfl
        exact o_no (want_f (t:=84) rfl q84 rfl) rfl (eo_nil ⟨rfl,rfl,undef,rfl,Fr.refl _ _,rfl⟩)
       ·intro ρ w605o F605o hS hρ
        have q15:ρ 15=.int .i64 (IntKind.i64.wrap ((Int.tmod (IntKind.i64.wrap d2) (8:Int)) + (1:Int))):=hρ 15 (by kernel_rfl)
        have q84:ρ 84=.bool false:=hS 27 (by decide) 84 rfl
        exact o_no (want_f (t:=84) rfl q84 rfl) rfl (eo_nil ⟨rfl,rfl,undef,rfl,Fr.refl _ _,rfl⟩)
       ·intro ρ w605o F605o hS hρ
        have q84:ρ 84=.bool false:=hS 27 (by decide) 84 rfl
        exact o_no (want_f (t:=84) rfl q84 rfl) rfl (eo_nil ⟨rfl,rfl,undef,rfl,Fr.refl _ _,rfl⟩)
       ·intro ρ w605o F605o hS hρ
        have q84:ρ 84=.bool false:=hS 27 (by decide) 84 rfl
        exact o_no (want_f (t:=84) rfl q84 rfl) rfl (eo_nil ⟨rfl,rfl,undef,rfl,Fr.refl _ _,rfl⟩)
       ·intro ρ w605o F605o hS hρ
        have q84:ρ 84=.bool false:=hS 27 (by decide) 84 rfl
        exact o_no (want_f (t:=84) rfl q84 rfl) rfl (eo_nil ⟨rfl,rfl,undef,rfl,Fr.refl _ _,rfl⟩)
       ·intro ρ w605o F605o hS hρ
        have q7:ρ 7=.pointer (some ⟨b18,0,none⟩):=hρ 7 (by kernel_rfl)
        have q84:ρ 84=.bool false:=hS 27 (by decide) 84 rfl
        exact o_no (want_f (t:=84) rfl q84 rfl) rfl (eo_nil ⟨rfl,rfl,undef,rfl,Fr.refl _ _,rfl⟩)
       ·intro ρ w605o F605o hS hρ
        have q15:ρ 15=.int .i64 (IntKind.i64.wrap ((Int.tmod (IntKind.i64.wrap d2) (8:Int)) + (1:Int))):=hρ 15 (by kernel_rfl)
        have q84:ρ 84=.bool false:=hS 27 (by decide) 84 rfl
        exact o_no (want_f (t:=84) rfl q84 rfl) rfl (eo_nil ⟨rfl,rfl,undef,rfl,Fr.refl _ _,rfl⟩)
       ·intro ρ w605o F605o hS hρ
        have q84:ρ 84=.bool false:=hS 27 (by decide) 84 rfl
        exact o_no (want_f (t:=84) rfl q84 rfl) rfl (eo_nil ⟨rfl,rfl,undef,rfl,Fr.refl _ _,rfl⟩)
       ·intro ρ w605o F605o hS hρ
        have q84:ρ 84=.bool false:=hS 27 (by decide) 84 rfl
        exact o_no (want_f (t:=84) rfl q84 rfl) rfl (eo_nil ⟨rfl,rfl,undef,rfl,Fr.refl _ _,rfl⟩)
       ·intro ρ w605o F605o hS hρ
        have q84:ρ 84=.bool false:=hS 27 (by decide) 84 rfl
        exact o_q (r_pickF q84 rfl rfl) ⟨Fr.refl _ _,rfl⟩
       ·intro ρ w605o F605o hS hρ
        have q95:ρ 95=.bool false:=hS 38 (by decide) 95 rfl
        exact o_q (r_mov q95) ⟨Fr.refl _ _,rfl⟩
       ·intro ρ w605o F605o hS hρ
        have q96:ρ 96=.bool false:=hS 39 (by decide) 96 rfl
        exact o_no (want_f (t:=96) rfl q96 rfl) rfl (eo_nil ⟨rfl,rfl,undef,rfl,Fr.refl _ _,rfl⟩)
       ·intro ρ w605o F605o hS hρ
        have q7:ρ 7=.pointer (some ⟨b18,0,none⟩):=hρ 7 (by kernel_rfl)
        have q96:ρ 96=.bool false:=hS 39 (by decide) 96 rfl
        exact o_no (want_f (t:=96) rfl q96 rfl) rfl (eo_nil ⟨rfl,rfl,undef,rfl,Fr.refl _ _,rfl⟩)
       ·intro ρ w605o F605o hS hρ
        have q15:ρ 15=.int .i64 (IntKind.i64.wrap ((Int.tmod (IntKind.i64.wrap d2) (8:Int)) + (1:Int))):=hρ 15 (by kernel_rfl)
        have q96:ρ 96=.bool false:=hS 39 (by decide) 96 rfl
        exact o_no (want_f (t:=96) rfl q96 rfl) rfl (eo_nil ⟨rfl,rfl,undef,rfl,Fr.refl _ _,rfl⟩)
       ·intro ρ w605o F605o hS hρ
        have q96:ρ 96=.bool false:=hS 39 (by decide) 96 rfl
        exact o_no (want_f (t:=96) rfl q96 rfl) rfl (eo_nil ⟨rfl,rfl,undef,rfl,Fr.refl _ _,rfl⟩)
       ·intro ρ w605o F605o hS hρ
        have q96:ρ 96=.bool false:=hS 39 (by decide) 96 rfl
        exact o_no (want_f (t:=96) rfl q96 rfl) rfl (eo_nil ⟨rfl,rfl,undef,rfl,Fr.refl _ _,rfl⟩)
       ·intro ρ w605o F605o hS hρ
        have q96:ρ 96=.bool false:=hS 39 (by decide) 96 rfl
        exact o_no (want_f (t:=96) rfl q96 rfl) rfl (eo_nil ⟨rfl,rfl,undef,rfl,Fr.refl _ _,rfl⟩)
       ·intro ρ w605o F605o hS hρ
        have q15:ρ 15=.int .i64 (IntKind.i64.wrap ((Int.tmod (IntKind.i64.wrap d2) (8:Int)) + (1:Int))):=hρ 15 (by kernel_rfl)
        have q96:ρ 96=.bool false:=hS 39 (by decide) 96 rfl
        exact o_no (want_f (t:=96) rfl q96 rfl) rfl (eo_nil ⟨rfl,rfl,undef,rfl,Fr.refl _ _,rfl⟩)
       ·intro ρ w605o F605o hS hρ
        have q96:ρ 96=.bool false:=hS 39 (by decide) 96 rfl
        exact o_no (want_f (t:=96) rfl q96 rfl) rfl (eo_nil ⟨rfl,rfl,undef,rfl,Fr.refl _ _,rfl⟩)
       ·intro ρ w605o F605o hS hρ
        have q96:ρ 96=.bool false:=hS 39 (by decide) 96 rfl
        exact o_q (r_pickF q96 rfl rfl) ⟨Fr.refl _ _,rfl⟩
       ·intro ρ w605o F605o hS hρ
        have q105:ρ 105=.bool false:=hS 48 (by decide) 105 rfl
        exact o_q (r_asg q105) ⟨Fr.refl _ _,rfl⟩
      ·intro ρ w605 F605 hS hρ
       have q12:ρ 12=.bool false:=hS 49 12 rfl
       obtain ⟨ρ',rfl⟩:∃ ρ',ρ=envs (ovr [12,57,58,59,60,61,62,63,64,65,66,67,68,69,70,71,72,73,74,75,76,77,78,79,80,81,82,83,84,85,86,87,88,89,90,91,92,93,94,95,96,97,98,99,100,101,102,103,104,105] ρ' _) [(12,.bool false)]:=⟨ρ,ovr_self hρ ⟨q12,trivial⟩⟩
       have E667:=E108.trans F605
       refine sq_n ?_
       refine ec_ret ?_
       subst h
       exact (end1 rfl ⟨_,rfl,E667,rfl⟩)
    ·replace h:=h.2 hc116
     obtain ⟨ha676,h⟩:=h
     obtain ⟨ha677,h⟩:=h
     obtain ⟨x675,hx675,h⟩:=h
     refine ec_any0 (by kernel_rfl) [[],[0],[0,1],[0,1],[0,1],[0,1,2,3,4],[0,1,2,3,4,5],[0,1,2,3,4,5,6],[0,1,2,3,4,5,6,7],[0,1,2,3,4,5,6,7,8],[0,1,2,3,4,5,6,7,8,9],[0,1,2,3,4,5,6,7,8],[0,1,2,3,4,5,6,7,8],[0,1,2,3,4,5,6,7,8,9,10,11,12],[0,1,2,3,4,5,6,7,8,9,10,11,12,13],[0,1,2,3,4,5,6,7,8,9,10,11,12,13,14],[0,1,2,3,4,5,6,7,8,9,10,11,12,13,14,15],[0,1,2,3,4,5,6,7,8,9,10,11,12,13,14,15,16],[0,1,2,3,4,5,6,7,8,9,10,11,12,13,14,15,16],[0,1,2,3,4,5,6,7,8,9,10,11,12,13,14,15,16],[0,1,2,3,4,5,6,7,8,9,10,11,12,13,14,15,16],[0,1,2,3,4,5,6,7,8,9,10,11,12,13,14,15,16,17,18,19,20],[0,1,2,3,4,5,6,7,8,9,10,11,12,13,14,15,16],[0,1,2,3,4,5,6,7,8,9,10,11,12,13,14,15,16],[0,1,2,3,4,5,6,7,8,9,10,11,12,13,14,15,16,17,18,19,20,21,22,23],[0,1,2,3,4,5,6,7,8,9,10,11,12,13,14,15,16,17,18,19,20,21,22,23,24],[0,1,2,3,4,5,6,7,8,9,10,11,12,13,14,15,16,17,18,19,20,21,22,23,24,25],[0,1,2,3,4,5,6,7,8,9,10,11,12,13,14,15,16,17,18,19,20,21,22,23,24,25,26],[0,1,2,3,4,5,6,7,8,9,10,11,12,13,14,15,16,17,18,19,20,21,22,23,24,25,26,27],[0,1,2,3,4,5,6,7,8,9,10,11,12,13,14,15,16,17,18,19,20,21,22,23,24,25,26,27],[0,1,2,3,4,5,6,7,8,9,10,11,12,13,14,15,16,17,18,19,20,21,22,23,24,25,26,27],[0,1,2,3,4,5,6,7,8,9,10,11,12,13,14,15,16,17,18,19,20,21,22,23,24,25,26,27],[0,1,2,3,4,5,6,7,8,9,10,11,12,13,14,15,16,17,18,19,20,21,22,23,24,25,26,27],[0,1,2,3,4,5,6,7,8,9,10,11,12,13,14,15,16,17,18,19,20,21,22,23,24,25,26,27,28,29,30,31,32],[0,1,2,3,4,5,6,7,8,9,10,11,12,13,14,15,16,17,18,19,20,21,22,23,24,25,26,27],[0,1,2,3,4,5,6,7,8,9,10,11,12,13,14,15,16,17,18,19,20,21,22,23,24,25,26,27],[0,1,2,3,4,5,6,7,8,9,10,11,12,13,14,15,16,17,18,19,20,21,22,23,24,25,26,27,28,29,30,31,32,33,34,35],[0,1,2,3,4,5,6,7,8,9,10,11,12,13,14,15,16,17,18,19,20,21,22,23,24,25,26,27,28,29,30,31,32,33,34,35,36],[0,1,2,3,4,5,6,7,8,9,10,11,12,13,14,15,16,17,18,19,20,21,22,23,24,25,26,27,28,29,30,31,32,33,34,35,36,37],[0,1,2,3,4,5,6,7,8,9,10,11,12,13,14,15,16,17,18,19,20,21,22,23,24,25,26,27,28,29,30,31,32,33,34,35,36,37,38],[0,1,2,3,4,5,6,7,8,9,10,11,12,13,14,15,16,17,18,19,20,21,22,23,24,25,26,27,28,29,30,31,32,33,34,35,36,37,38,39],[0,1,2,3,4,5,6,7,8,9,10,11,12,13,14,15,16,17,18,19,20,21,22,23,24,25,26,27,28,29,30,31,32,33,34,35,36,37,38,39],[0,1,2,3,4,5,6,7,8,9,10,11,12,13,14,15,16,17,18,19,20,21,22,23,24,25,26,27,28,29,30,31,32,33,34,35,36,37,38,39],[0,1,2,3,4,5,6,7,8,9,10,11,12,13,14,15,16,17,18,19,20,21,22,23,24,25,26,27,28,29,30,31,32,33,34,35,36,37,38,39],[0,1,2,3,4,5,6,7,8,9,10,11,12,13,14,15,16,17,18,19,20,21,22,23,24,25,26,27,28,29,30,31,32,33,34,35,36,37,38,39,40,41,42,43],[0,1,2,3,4,5,6,7,8,9,10,11,12,13,14,15,16,17,18,19,20,21,22,23,24,25,26,27,28,29,30,31,32,33,34,35,36,37,38,39,40,41,42,43,44],[0,1,2,3,4,5,6,7,8,9,10,11,12,13,14,15,16,17,18,19,20,21,22,23,24,25,26,27,28,29,30,31,32,33,34,35,36,37,38,39],[0,1,2,3,4,5,6,7,8,9,10,11,12,13,14,15,16,17,18,19,20,21,22,23,24,25,26,27,28,29,30,31,32,33,34,35,36,37,38,39,40,41,42,43,44,45,46],[0,1,2,3,4,5,6,7,8,9,10,11,12,13,14,15,16,17,18,19,20,21,22,23,24,25,26,27,28,29,30,31,32,33,34,35,36,37,38,39,40,41,42,43,44,45,46,47],[0,1,2,3,4,5,6,7,8,9,10,11,12,13,14,15,16,17,18,19,20,21,22,23,24,25,26,27,28,29,30,31,32,33,34,35,36,37,38,39,40,41,42,43,44,45,46,47,48]] [12,57,58,59,60,61,62,63,64,65,66,67,68,69,70,71,72,73,74,75,76,77,78,79,80,81,82,83,84,85,86,87,88,89,90,91,92,93,94,95,96,97,98,99,100,101,102,103,104,105] [fun v _=>v=(.bool (worksV):Value),fun v _=>v=(.bool (worksV):Value),fun v _=>v=(.agg (cBuf x63 A73 c74).toArray:Value),fun v _=>v=(.agg (cArena d1 A4 c5 A7 c8).toArray:Value),fun v _=>v=(.int .i64 (IntKind.i64.wrap ((Int.tmod (IntKind.i64.wrap d2) (8:Int)) + (1:Int))):Value),fun v _=>v=(.int .i64 x675:Value),fun v _=>v=(.bool (x675==(0:Int)):Value),fun v _=>v=(.bool (x675==(0:Int)):Value),fun v _=>v=(.bool (x675==(0:Int)):Value),fun v _=>v=((undef:Value):Value),fun v _=>v=((undef:Value):Value),fun v _=>v=((undef:Value):Value),fun v _=>v=((undef:Value):Value),fun v _=>v=((undef:Value):Value),fun v _=>v=((undef:Value):Value),fun v _=>v=(.bool false:Value),fun v _=>v=(.bool false:Value),fun v _=>v=((undef:Value):Value),fun v _=>v=((undef:Value):Value),fun v _=>v=((undef:Value):Value),fun v _=>v=((undef:Value):Value),fun v _=>v=((undef:Value):Value),fun v _=>v=((undef:Value):Value),fun v _=>v=((undef:Value):Value),fun v _=>v=((undef:Value):Value),fun v _=>v=((undef:Value):Value),fun v _=>v=(.bool false:Value),fun v _=>v=(.bool false:Value),fun v _=>v=((undef:Value):Value),fun v _=>v=((undef:Value):Value),fun v _=>v=((undef:Value):Value),fun v _=>v=((undef:Value):Value),fun v _=>v=((undef:Value):Value),fun v _=>v=((undef:Value):Value),fun v _=>v=((undef:Value):Value),fun v _=>v=((undef:Value):Value),fun v _=>v=((undef:Value):Value),fun v _=>v=((undef:Value):Value),fun v _=>v=(.bool false:Value),fun v _=>v=(.bool false:Value),fun v _=>v=((undef:Value):Value),fun v _=>v=((undef:Value):Value),fun v _=>v=((undef:Value):Value),fun v _=>v=((undef:Value):Value),fun v _=>v=((undef:Value):Value),fun v _=>v=((undef:Value):Value),fun v _=>v=((undef:Value):Value),fun v _=>v=((undef:Value):Value),fun v _=>v=(.bool false:Value),fun v _=>v=(.bool false:Value)] (by kernel_rfl) ⟨fun _ _ _ _ _ h=>h,fun _ _ _ _ _ h=>h,fun _ _ _ _ _ h=>h,fun _ _ _ _ _ h=>h,fun _ _ _ _ _ h=>h,fun _ _ _ _ _ h=>h,fun _ _ _ _ _ h=>h,fun _ _ _ _ _ h=>h,fun _ _ _ _ _ h=>h,fun _ _ _ _ _ h=>h,fun _ _ _ _ _ h=>h,fun _ _ _ _ _ h=>h,fun _ _ _ _ _ h=>h,fun _ _ _ _ _ h=>h,fun _ _ _ _ _ h=>h,fun _ _ _ _ _ h=>h,fun _ _ _ _ _ h=>h,fun _ _ _ _ _ h=>h,fun _ _ _ _ _ h=>h,fun _ _ _ _ _ h=>h,fun _ _ _ _ _ h=>h,fun _ _ _ _ _ h=>h,fun _ _ _ _ _ h=>h,fun _ _ _ _ _ h=>h,fun _ _ _ _ _ h=>h,fun _ _ _ _ _ h=>h,fun _ _ _ _ _ h=>h,fun _ _ _ _ _ h=>h,fun _ _ _ _ _ h=>h,fun _ _ _ _ _ h=>h,fun _ _ _ _ _ h=>h,fun _ _ _ _ _ h=>h,fun _ _ _ _ _ h=>h,fun _ _ _ _ _ h=>h,fun _ _ _ _ _ h=>h,fun _ _ _ _ _ h=>h,fun _ _ _ _ _ h=>h,fun _ _ _ _ _ h=>h,fun _ _ _ _ _ h=>h,fun _ _ _ _ _ h=>h,fun _ _ _ _ _ h=>h,fun _ _ _ _ _ h=>h,fun _ _ _ _ _ h=>h,fun _ _ _ _ _ h=>h,fun _ _ _ _ _ h=>h,fun _ _ _ _ _ h=>h,fun _ _ _ _ _ h=>h,fun _ _ _ _ _ h=>h,fun _ _ _ _ _ h=>h,fun _ _ _ _ _ h=>h,trivial⟩ ?_ ?_
     ·refine ⟨?_,?_,?_,?_,?_,?_,?_,?_,?_,?_,?_,?_,?_,?_,?_,?_,?_,?_,?_,?_,?_,?_,?_,?_,?_,?_,?_,?_,?_,?_,?_,?_,?_,?_,?_,?_,?_,?_,?_,?_,?_,?_,?_,?_,?_,?_,?_,?_,?_,?_,trivial⟩
      ·intro ρ w674o F674o hS hρ
       have q13:ρ 13=.bool (worksV):=hρ 13 (by kernel_rfl)
       exact o_q (r_mov q13) ⟨Fr.refl _ _,rfl⟩
      ·intro ρ w674o F674o hS hρ
       have q57:ρ 57=.bool (worksV):=hS 0 (by decide) 57 rfl
       exact o_q (r_mov q57) ⟨Fr.refl _ _,rfl⟩
      ·intro ρ w674o F674o hS hρ
       have q16:ρ 16=.pointer (some ⟨b76,0,none⟩):=hρ 16 (by kernel_rfl)
       have q58:ρ 58=.bool (worksV):=hS 1 (by decide) 58 rfl
       exact o_v (r_lda agg_buffer_Buffer q16 (vs:=(cBuf x63 A73 c74)) rfl ((((B88'.ex F96).ex F106).ex F674o).part (n:=3) rfl)) (want_t (t:=58) rfl q58 (of_not hc33)) rfl rfl (eo_nil ⟨rfl,rfl,_,rfl,Fr.refl _ _,rfl⟩)
      ·intro ρ w674o F674o hS hρ
       have q7:ρ 7=.pointer (some ⟨b18,0,none⟩):=hρ 7 (by kernel_rfl)
       have q58:ρ 58=.bool (worksV):=hS 1 (by decide) 58 rfl
       exact o_v (r_lda agg_api_Arena q7 (vs:=(cArena d1 A4 c5 A7 c8)) rfl ((S18.fr (((G92.trans (Fr.ext F96)).trans (Fr.ext F106)).trans (Fr.ext F674o)) (fun _ h=>h)).now.part (n:=3) rfl)) (want_t (t:=58) rfl q58 (of_not hc33)) rfl rfl (eo_nil ⟨rfl,rfl,_,rfl,Fr.refl _ _,rfl⟩)
      ·intro ρ w674o F674o hS hρ
       have q15:ρ 15=.int .i64 (IntKind.i64.wrap ((Int.tmod (IntKind.i64.wrap d2) (8:Int)) + (1:Int))):=hρ 15 (by kernel_rfl)
       have q58:ρ 58=.bool (worksV):=hS 1 (by decide) 58 rfl
       exact o_v (r_mov q15) (want_t (t:=58) rfl q58 (of_not hc33)) rfl rfl (eo_nil ⟨rfl,rfl,_,rfl,Fr.refl _ _,rfl⟩)
      ·intro ρ w674o F674o hS hρ
       have E692:=E108.trans F674o
       have q58:ρ 58=.bool (worksV):=hS 1 (by decide) 58 rfl
       have q59:ρ 59=.agg (cBuf x63 A73 c74).toArray:=hS 2 (by decide) 59 rfl
       have q60:ρ 60=.agg (cArena d1 A4 c5 A7 c8).toArray:=hS 3 (by decide) 60 rfl
       have q61:ρ 61=.int .i64 (IntKind.i64.wrap ((Int.tmod (IntKind.i64.wrap d2) (8:Int)) + (1:Int))):=hS 4 (by decide) 61 rfl
       refine o_call cf_buffer_Check (by simp only [List.map,ev,q59,q60,q61] <;> rfl) (buffer_Check_c x63 (kBuf_mk (d:=x63) (H75.up (((G94.trans (Fr.ext F96)).trans (Fr.ext F106)).trans (Fr.ext F674o)) (fun _ h=>h) (upc (.inr m81) (fun _ h=>.inl h)))) d1 (kArena_mk (d:=d1) (H6.up (((G90.trans (Fr.ext F96)).trans (Fr.ext F106)).trans (Fr.ext F674o)) (fun _ h=>h) (upc (.inr m77) (fun _ h=>.inl h))) (H9.up (((G90.trans (Fr.ext F96)).trans (Fr.ext F106)).trans (Fr.ext F674o)) (fun _ h=>h) (upc (.inr m77) (fun _ h=>.inl h)))) (IntKind.i64.wrap ((Int.tmod (IntKind.i64.wrap d2) (8:Int)) + (1:Int))) ((hL.fr E692).cons (((B88'.ex F96).ex F106).ex F674o).lt) (eq_ev hx675 (bufCheck_ev x63 d1 (IntKind.i64.wrap ((Int.tmod (IntKind.i64.wrap d2) (8:Int)) + (1:Int))) ha676 ha677))) (want_t (t:=58) rfl q58 (of_not hc33)) rfl ?_
       rintro _ w' ⟨F,rfl⟩
       exact eo_nil ⟨rfl,rfl,_,rfl,F,rfl⟩
      ·intro ρ w674o F674o hS hρ
       have q58:ρ 58=.bool (worksV):=hS 1 (by decide) 58 rfl
       have q62:ρ 62=.int .i64 x675:=hS 5 (by decide) 62 rfl
       exact o_v (r_int q62 rfl rfl) (want_t (t:=58) rfl q58 (of_not hc33)) rfl rfl (eo_nil ⟨rfl,rfl,_,rfl,Fr.refl _ _,rfl⟩)
      ·intro ρ w674o F674o hS hρ
       have q58:ρ 58=.bool (worksV):=hS 1 (by decide) 58 rfl
       have q63:ρ 63=.bool (x675==(0:Int)):=hS 6 (by decide) 63 rfl
       exact o_q (r_pickT q58 (of_not hc33) q63) ⟨Fr.refl _ _,rfl⟩
      ·intro ρ w674o F674o hS hρ
       have q64:ρ 64=.bool (x675==(0:Int)):=hS 7 (by decide) 64 rfl
       exact o_q (r_mov q64) ⟨Fr.refl _ _,rfl⟩
      ·intro ρ w674o F674o hS hρ
       have q65:ρ 65=.bool (x675==(0:Int)):=hS 8 (by decide) 65 rfl
       exact o_no (want_f (t:=65) rfl q65 (by rw [hx675]; exact hc116)) rfl (eo_nil ⟨rfl,rfl,undef,rfl,Fr.refl _ _,rfl⟩)
      ·intro ρ w674o F674o hS hρ
       have q65:ρ 65=.bool (x675==(0:Int)):=hS 8 (by decide) 65 rfl
       exact o_no (want_f (t:=65) rfl q65 (by rw [hx675]; exact hc116)) rfl (eo_nil ⟨rfl,rfl,undef,rfl,Fr.refl _ _,rfl⟩)
      ·intro ρ w674o F674o hS hρ
       have q65:ρ 65=.bool (x675==(0:Int)):=hS 8 (by decide) 65 rfl
       exact o_no (want_f (t:=65) rfl q65 (by rw [hx675]; exact hc116)) rfl (eo_nil ⟨rfl,rfl,undef,rfl,Fr.refl _ _,rfl⟩)
      ·intro ρ w674o F674o hS hρ
       have q65:ρ 65=.bool (x675==(0:Int)):=hS 8 (by decide) 65 rfl
       exact o_no (want_f (t:=65) rfl q65 (by rw [hx675]; exact hc116)) rfl (eo_nil ⟨rfl,rfl,undef,rfl,Fr.refl _ _,rfl⟩)
      ·intro ρ w674o F674o hS hρ
       have q65:ρ 65=.bool (x675==(0:Int)):=hS 8 (by decide) 65 rfl
       exact o_no (want_f (t:=65) rfl q65 (by rw [hx675]; exact hc116)) rfl (eo_nil ⟨rfl,rfl,undef,rfl,Fr.refl _ _,rfl⟩)
      ·intro ρ w674o F674o hS hρ
       have q65:ρ 65=.bool (x675==(0:Int)):=hS 8 (by decide) 65 rfl
       exact o_no (want_f (t:=65) rfl q65 (by rw [hx675]; exact hc116)) rfl (eo_nil ⟨rfl,rfl,undef,rfl,Fr.refl _ _,rfl⟩)
      ·intro ρ w674o F674o hS hρ
       have q65:ρ 65=.bool (x675==(0:Int)):=hS 8 (by decide) 65 rfl
       exact o_q (r_pickF q65 (by rw [hx675]; exact hc116) rfl) ⟨Fr.refl _ _,rfl⟩
      ·intro ρ w674o F674o hS hρ
       have q72:ρ 72=.bool false:=hS 15 (by decide) 72 rfl
       exact o_q (r_mov q72) ⟨Fr.refl _ _,rfl⟩
      ·intro ρ w674o F674o hS hρ
       have q73:ρ 73=.bool false:=hS 16 (by decide) 73 rfl
       exact o_no (want_f (t:=73) rfl q73 rfl) rfl (eo_nil ⟨rfl,rfl,undef,rfl,Fr.refl _ _,rfl⟩)
      ·intro ρ w674o F674o hS hρ
       have q73:ρ 73=.bool false:=hS 16 (by decide) 73 rfl
       exact o_no (want_f (t:=73) rfl q73 rfl) rfl (eo_nil ⟨rfl,rfl,undef,rfl,Fr.refl _ _,rfl⟩)
      ·intro ρ w674o F674o hS hρ
       have q73:ρ 73=.bool false:=hS 16 (by decide) 73 rfl
       exact o_no (want_f (t:=73) rfl q73 rfl) rfl (eo_nil ⟨rfl,rfl,undef,rfl,Fr.refl _ _,rfl⟩)
      ·intro ρ w674o F674o hS hρ
       have q73:ρ 73=.bool false:=hS 16 (by decide) 73 rfl
       exact o_no (want_f (t:=73) rfl q73 rfl) rfl (eo_nil ⟨rfl,rfl,undef,rfl,Fr.refl _ _,rfl⟩)
      ·intro ρ w674o F674o hS hρ
       have q73:ρ 73=.bool false:=hS 16 (by decide) 73 rfl
       exact o_no (want_f (t:=73) rfl q73 rfl) rfl (eo_nil ⟨rfl,rfl,undef,rfl,Fr.refl _ _,rfl⟩)
      ·intro ρ w674o F674o hS hρ
       have q73:ρ 73=.bool false:=hS 16 (by decide) 73 rfl
       exact o_no (want_f (t:=73) rfl q73 rfl) rfl (eo_nil ⟨rfl,rfl,undef,rfl,Fr.refl _ _,rfl⟩)
      ·intro ρ w674o F674o hS hρ
       have q73:ρ 73=.bool false:=hS 16 (by decide) 73 rfl
       exact o_no (want_f (t:=73) rfl q73 rfl) rfl (eo_nil ⟨rfl,rfl,undef,rfl,Fr.refl _ _,rfl⟩)
      ·intro ρ w674o F674o hS hρ
       have q73:ρ 73=.bool false:=hS 16 (by decide) 73 rfl
       exact o_no (want_f (t:=73) rfl q73 rfl) rfl (eo_nil ⟨rfl,rfl,undef,rfl,Fr.refl _ _,rfl⟩)
      ·intro ρ w674o F674o hS hρ
       have q73:ρ 73=.bool false:=hS 16 (by decide) 73 rfl
       exact o_no (want_f (t:=73) rfl q73 rfl) rfl (eo_nil ⟨rfl,rfl,undef,rfl,Fr.refl _ _,rfl⟩)
      ·intro ρ w674o F674o hS hρ
       have q73:ρ 73=.bool false:=hS 16 (by decide) 73 rfl
       exact o_q (r_pickF q73 rfl rfl) ⟨Fr.refl _ _,rfl⟩
      ·intro ρ w674o F674o hS hρ
       have q83:ρ 83=.bool false:=hS 26 (by decide) 83 rfl
       exact o_q (r_mov q83) ⟨Fr.refl _ _,rfl⟩
      ·intro ρ w674o F674o hS hρ
       have q84:ρ 84=.bool false:=hS 27 (by decide) 84 rfl
       exact o_no (want_f (t:=84) rfl q84 rfl) rfl (eo_nil ⟨rfl,rfl,undef,rfl,Fr.refl _ _,rfl⟩)
      ·intro ρ w674o F674o hS hρ
       have q84:ρ 84=.bool false:=hS 27 (by decide) 84 rfl
       exact o_no (want_f (t:=84) rfl q84 rfl) rfl (eo_nil ⟨rfl,rfl,undef,rfl,Fr.refl _ _,rfl⟩)
      ·intro ρ w674o F674o hS hρ
       have q84:ρ 84=.bool false:=hS 27 (by decide) 84 rfl
       exact o_no (want_f (t:=84) rfl q84 rfl) rfl (eo_nil ⟨rfl,rfl,undef,rfl,Fr.refl _ _,rfl⟩)
      ·intro ρ w674o F674o hS hρ
       have q84:ρ 84=.bool false:=hS 27 (by decide) 84 rfl
       exact o_no (want_f (t:=84) rfl q84 rfl) rfl (eo_nil ⟨rfl,rfl,undef,rfl,Fr.refl _ _,rfl⟩)
      ·intro ρ w674o F674o hS hρ
       have q84:ρ 84=.bool false:=hS 27 (by decide) 84 rfl
       exact o_no (want_f (t:=84) rfl q84 rfl) rfl (eo_nil ⟨rfl,rfl,undef,rfl,Fr.refl _ _,rfl⟩)
      ·intro ρ w674o F674o hS hρ
       have q84:ρ 84=.bool false:=hS 27 (by decide) 84 rfl
       exact o_no (want_f (t:=84) rfl q84 rfl) rfl (eo_nil ⟨rfl,rfl,undef,rfl,Fr.refl _ _,rfl⟩)
      ·intro ρ w674o F674o hS hρ
       have q84:ρ 84=.bool false:=hS 27 (by decide) 84 rfl
       exact o_no (want_f (t:=84) rfl q84 rfl) rfl (eo_nil ⟨rfl,rfl,undef,rfl,Fr.refl _ _,rfl⟩)
      ·intro ρ w674o F674o hS hρ
       have q84:ρ 84=.bool false:=hS 27 (by decide) 84 rfl
       exact o_no (want_f (t:=84) rfl q84 rfl) rfl (eo_nil ⟨rfl,rfl,undef,rfl,Fr.refl _ _,rfl⟩)
      ·intro ρ w674o F674o hS hρ
       have q84:ρ 84=.bool false:=hS 27 (by decide) 84 rfl
       exact o_no (want_f (t:=84) rfl q84 rfl) rfl (eo_nil ⟨rfl,rfl,undef,rfl,Fr.refl _ _,rfl⟩)
      ·intro ρ w674o F674o hS hρ
       have q84:ρ 84=.bool false:=hS 27 (by decide) 84 rfl
       exact o_no (want_f (t:=84) rfl q84 rfl) rfl (eo_nil ⟨rfl,rfl,undef,rfl,Fr.refl _ _,rfl⟩)
      ·intro ρ w674o F674o hS hρ
       have q84:ρ 84=.bool false:=hS 27 (by decide) 84 rfl
       exact o_q (r_pickF q84 rfl rfl) ⟨Fr.refl _ _,rfl⟩
      ·intro ρ w674o F674o hS hρ
       have q95:ρ 95=.bool false:=hS 38 (by decide) 95 rfl
       exact o_q (r_mov q95) ⟨Fr.refl _ _,rfl⟩
      ·intro ρ w674o F674o hS hρ
       have q96:ρ 96=.bool false:=hS 39 (by decide) 96 rfl
       exact o_no (want_f (t:=96) rfl q96 rfl) rfl (eo_nil ⟨rfl,rfl,undef,rfl,Fr.refl _ _,rfl⟩)
      ·intro ρ w674o F674o hS hρ
       have q96:ρ 96=.bool false:=hS 39 (by decide) 96 rfl
       exact o_no (want_f (t:=96) rfl q96 rfl) rfl (eo_nil ⟨rfl,rfl,undef,rfl,Fr.refl _ _,rfl⟩)
      ·intro ρ w674o F674o hS hρ
       have q96:ρ 96=.bool false:=hS 39 (by decide) 96 rfl
       exact o_no (want_f (t:=96) rfl q96 rfl) rfl (eo_nil ⟨rfl,rfl,undef,rfl,Fr.refl _ _,rfl⟩)
      ·intro ρ w674o F674o hS hρ
       have q96:ρ 96=.bool false:=hS 39 (by decide) 96 rfl
       exact o_no (want_f (t:=96) rfl q96 rfl) rfl (eo_nil ⟨rfl,rfl,undef,rfl,Fr.refl _ _,rfl⟩)
      ·intro ρ w674o F674o hS hρ
       have q96:ρ 96=.bool false:=hS 39 (by decide) 96 rfl
       exact o_no (want_f (t:=96) rfl q96 rfl) rfl (eo_nil ⟨rfl,rfl,undef,rfl,Fr.refl _ _,rfl⟩)
      ·intro ρ w674o F674o hS hρ
       have q96:ρ 96=.bool false:=hS 39 (by decide) 96 rfl
       exact o_no (want_f (t:=96) rfl q96 rfl) rfl (eo_nil ⟨rfl,rfl,undef,rfl,Fr.refl _ _,rfl⟩)
      ·intro ρ w674o F674o hS hρ
       have q96:ρ 96=.bool false:=hS 39 (by decide) 96 rfl
       exact o_no (want_f (t:=96) rfl q96 rfl) rfl (eo_nil ⟨rfl,rfl,undef,rfl,Fr.refl _ _,rfl⟩)
      ·intro ρ w674o F674o hS hρ
       have q96:ρ 96=.bool false:=hS 39 (by decide) 96 rfl
       exact o_no (want_f (t:=96) rfl q96 rfl) rfl (eo_nil ⟨rfl,rfl,undef,rfl,Fr.refl _ _,rfl⟩)
      ·intro ρ w674o F674o hS hρ
       have q96:ρ 96=.bool false:=hS 39 (by decide) 96 rfl
       exact o_q (r_pickF q96 rfl rfl) ⟨Fr.refl _ _,rfl⟩
      ·intro ρ w674o F674o hS hρ
       have q105:ρ 105=.bool false:=hS 48 (by decide) 105 rfl
       exact o_q (r_asg q105) ⟨Fr.refl _ _,rfl⟩
     ·intro ρ w674 F674 hS hρ
      have q12:ρ 12=.bool false:=hS 49 12 rfl
      obtain ⟨ρ',rfl⟩:∃ ρ',ρ=envs (ovr [12,57,58,59,60,61,62,63,64,65,66,67,68,69,70,71,72,73,74,75,76,77,78,79,80,81,82,83,84,85,86,87,88,89,90,91,92,93,94,95,96,97,98,99,100,101,102,103,104,105] ρ' _) [(12,.bool false)]:=⟨ρ,ovr_self hρ ⟨q12,trivial⟩⟩
      have E699:=E108.trans F674
      refine sq_n ?_
      refine ec_ret ?_
      subst h
      exact (end1 rfl ⟨_,rfl,E699,rfl⟩)
end Go.Proofs.Ytpopikeebobjnaa
