/- The law PushGoes: what it comes to. -/
import Derived.Test.YthfkbabgkacfnaaPx
namespace Go.Proofs.Ythfkbabgkacfnaa
open Go Go.RowKit
set_option linter.unusedVariables false
set_option linter.unusedSimpArgs false
def law17_PushGoes_b70 (d1:Arena) (d2:Int) (d3:Int) (x42:Buf) (s70:Int × Int × Int × Int × List Nm) (z70:(Int × Int × Int × Int × List Nm) ⊕ ((Int × Int × Int × Int × List Nm) ⊕ (Bool))):Prop :=
 ((decide (s70.2.1<(9:Int)))=true→((smB (⟨s70.2.2.1,s70.2.2.2.1,s70.2.2.2.2⟩:Buf))∧((sma d1)∧(∃ x75,x75=(sendP (⟨s70.2.2.1,s70.2.2.2.1,s70.2.2.2.2⟩:Buf) d1 (IntKind.i64.wrap ((Int.tmod (IntKind.i64.wrap d2) (8:Int)) + (1:Int))) (IntKind.i64.wrap ((Int.tmod (IntKind.i64.wrap d3) (4:Int)) + (1:Int))))∧(((!x75.2)=true→(((s70.1==(x42.names.length:Int))=true→((smB (⟨s70.2.2.1,s70.2.2.2.1,s70.2.2.2.2⟩:Buf))∧((sma d1)∧(∃ x122,x122=(mendB (⟨s70.2.2.1,s70.2.2.2.1,s70.2.2.2.2⟩:Buf) d1 (IntKind.i64.wrap ((Int.tmod (IntKind.i64.wrap d2) (8:Int)) + (1:Int))))∧(z70=.inr (.inr ((x122.names.length:Int)==(0:Int))))))))∧((s70.1==(x42.names.length:Int))=false→(z70=.inr (.inr false)))))∧((!x75.2)=false→((sml x75.1.entries)∧((x75.1.entries.length≤1000000)∧(∃ x140,x140=(heardP x75.1)∧((sml x75.1.entries)∧((x75.1.entries.length≤1000000)∧(((!(((checkF x75.1) != (0:Int))||(!x140.2)))=true→sml x140.1.entries)∧(((!(((checkF x75.1) != (0:Int))||(!x140.2)))=true→x140.1.entries.length≤1000000)∧((((((((checkF x75.1) != (0:Int))||(!x140.2))||((checkF x140.1) != (0:Int)))||(decide ((x75.1.entries.length:Int)<(1:Int))))||(decide ((IntKind.i64.wrap ((Int.tmod (IntKind.i64.wrap d3) (4:Int)) + (1:Int)))<(x75.1.entries.length:Int))))=true→(z70=.inr (.inr false)))∧(((((((checkF x75.1) != (0:Int))||(!x140.2))||((checkF x140.1) != (0:Int)))||(decide ((x75.1.entries.length:Int)<(1:Int))))||(decide ((IntKind.i64.wrap ((Int.tmod (IntKind.i64.wrap d3) (4:Int)) + (1:Int)))<(x75.1.entries.length:Int))))=false→((smB (⟨s70.2.2.1,s70.2.2.2.1,s70.2.2.2.2⟩:Buf))∧((sma d1)∧((sml x140.1.entries)∧((x140.1.entries.length≤1000000)∧(∃ x225,x225=(doneP (⟨s70.2.2.1,s70.2.2.2.1,s70.2.2.2.2⟩:Buf) d1 (IntKind.i64.wrap ((Int.tmod (IntKind.i64.wrap d2) (8:Int)) + (1:Int))) x140.1)∧(z70=.inl ((IntKind.i64.wrap (s70.1 + (x75.1.entries.length:Int))),(IntKind.i64.wrap (s70.2.1 + (1:Int))),x225.epoch,x225.first,x225.names))))))))))))))))))))))∧((decide (s70.2.1<(9:Int)))=false→(z70=.inr (.inl (s70.1,s70.2.1,s70.2.2.1,s70.2.2.2.1,s70.2.2.2.2))))
def law17_PushGoes_raw (d0:Buf) (d1:Arena) (d2:Int) (d3:Int) (y:Bool):Prop :=
 ((!(worksV))=true→(y=false))∧((!(worksV))=false→(((!(!((fewB d0)&&(fewA d1))))=true→sma d1)∧((((!((fewB d0)&&(fewA d1)))||((checkA d1) != (0:Int)))=true→(y=(worksV)))∧(((!((fewB d0)&&(fewA d1)))||((checkA d1) != (0:Int)))=false→((smB d0)∧((sma d1)∧(∃ x42,x42=(mendB d0 d1 (IntKind.i64.wrap ((Int.tmod (IntKind.i64.wrap d2) (8:Int)) + (1:Int))))∧(∃ x70,LoopR (law17_PushGoes_b70 d1 d2 d3 x42) ((0:Int),(0:Int),d0.epoch,d0.first,d0.names) x70∧(∀ sx70,x70=.inl sx70→(y=false))∧(∀ y70,x70=.inr y70→(y=y70))))))))))
set_option maxRecDepth 20000 in
set_option maxHeartbeats 4000000 in
theorem law17_PushGoes_c {L:List Nat} {w:World} {csP0:List Value} (d0:Buf) (HP0:Stb L w (fun w=>kBuf.r w csP0 d0)) {csP1:List Value} (d1:Arena) (HP1:Stb L w (fun w=>kArena.r w csP1 d1)) (d2:Int) (d3:Int) (hL:Lt L w) {y:Bool} (h:law17_PushGoes_raw d0 d1 d2 d3 y) :
  Calls Try.prog 3 [.agg csP0.toArray,.agg csP1.toArray,.int .u8 d2,.int .u8 d3].toArray w (Ret fun v w'=>Ext w w'∧v=.bool y):=by
 obtain ⟨A1,c2,rfl,H3⟩:=kBuf_open HP0
 obtain ⟨A4,c5,A7,c8,rfl,H6,H9⟩:=kArena_open HP1
 unfold law17_PushGoes_raw at h
 refine calls_ec Try.func3 rfl rfl rfl ?_
 refine ec_seq ?_
 refine ec_region ?_
 refine o_box (cs:=(cBuf d0 A1 c2)) rfl rfl rfl ?_
 intro b10 w10 e10 F10 B10
 have n10:w.heap.size≤b10:=Nat.le_of_eq e10.symm
 have m11:w.heap.size≤b10:=Nat.le_of_eq e10.symm
 have G12:Fr L w w10:=Fr.ext F10
 refine o_box (cs:=(cArena d1 A4 c5 A7 c8)) rfl rfl rfl ?_
 intro b13 w13 e13 F13 B13
 have S13:=B13.stb (nin ((hL.fr F10).cons B10.lt) e13)
 have E14:=F10.trans F13
 refine o_w (v:=.bool false) (r_asg rfl) ?_
 refine eo_nil_sq ?_
 refine ec_seq ?_
 refine ec_region ?_
 refine o_call cf_law17_works rfl (law17_works_c ((hL.fr E14).cons (B10.ex F13).lt) (works17_ev)) rfl rfl ?_
 rintro _ w17 ⟨F17,rfl⟩
 have E18:=E14.trans F17
 have G20:Fr (b10::L) w13 w17:=Fr.ext F17
 refine o_w (v:=.bool (worksV)) (r_asg rfl) ?_
 refine eo_nil_sq ?_
 iterate 2 refine ec_seq ?_
 refine ec_region ?_
 refine o_w (v:=.bool (worksV)) (r_mov rfl) ?_
 refine o_w (v:=.bool (!(worksV))) (r_not rfl) ?_
 refine eo_nil_sq ?_
 refine ec_cond rfl (fun hc22=>?_) (fun hc22=>?_)
 ·replace h:=h.1 hc22
  refine ec_seq ?_
  refine ec_region ?_
  refine o_w (v:=.bool false) (r_asg rfl) ?_
  refine eo_nil_sq ?_
  refine ec_ret ?_
  refine sq_ret ?_
  subst h
  exact (end1 rfl ⟨_,rfl,E18,rfl⟩)
 ·replace h:=h.2 hc22
  refine ec_skip ?_
  refine sq_n ?_
  refine ec_seq ?_
  refine ec_region ?_
  refine o_w (v:=.agg (cBuf d0 A1 c2).toArray) (r_lda agg_buffer_Buffer rfl (vs:=(cBuf d0 A1 c2)) rfl (((B10.ex F13).ex F17).part (n:=3) rfl)) ?_
  refine o_call cf_law16_Few rfl (law16_Few_c d0 (kBuf_mk (d:=d0) (H3.up ((G12.trans (Fr.ext F13)).trans (Fr.ext F17)) (fun _ h=>h) (upc (.inr m11) (fun _ h=>.inl h)))) ((hL.fr E18).cons ((B10.ex F13).ex F17).lt) (fewB_ev d0)) rfl rfl ?_
  rintro _ w24 ⟨F24,rfl⟩
  have E25:=E18.trans F24
  refine o_w (v:=.bool (fewB d0)) (r_mov rfl) ?_
  refine o_vg (v:=.agg (cArena d1 A4 c5 A7 c8).toArray) (want_ct (t:=25) rfl rfl) (fun hk=>(r_lda agg_api_Arena rfl (vs:=(cArena d1 A4 c5 A7 c8)) rfl ((S13.fr (G20.trans (Fr.ext F24)) (fun _ h=>h)).now.part (n:=3) rfl))) rfl rfl ?_
  refine o_callg (V:=.bool (fewA d1)) cf_law08_Few (want_ct (t:=25) rfl rfl) (fun hk=>(mapv1 (gdT hk))) (fun hk=>(law08_Few_c d1 (kArena_mk (d:=d1) (H6.up (((G12.trans (Fr.ext F13)).trans (Fr.ext F17)).trans (Fr.ext F24)) (fun _ h=>h) (upc (.inr m11) (fun _ h=>.inl h))) (H9.up (((G12.trans (Fr.ext F13)).trans (Fr.ext F17)).trans (Fr.ext F24)) (fun _ h=>h) (upc (.inr m11) (fun _ h=>.inl h)))) ((hL.fr E25).cons (((B10.ex F13).ex F17).ex F24).lt) (fewA_ev d1))) rfl ?_
  intro w29 F29
  have E30:=E25.trans F29
  have G31:=(((G12.trans (Fr.ext F13)).trans (Fr.ext F17)).trans (Fr.ext F24)).trans (Fr.ext F29)
  refine o_w (v:=.bool ((fewB d0)&&(fewA d1))) (r_pickAnd rfl (fun ht=>(gdT ht)) rfl) ?_
  refine o_w (v:=.bool ((fewB d0)&&(fewA d1))) (r_asg rfl) ?_
  refine eo_nil_sq ?_
  refine ec_seq ?_
  refine ec_region ?_
  refine o_w (v:=.int .u8 d2) (r_mov rfl) ?_
  refine o_w (v:=.int .i64 (IntKind.i64.wrap d2)) (r_conv un_uint8 un_int rfl) ?_
  refine o_w (v:=.int .i64 (Int.tmod (IntKind.i64.wrap d2) (8:Int))) (r_rem rfl rfl rfl) ?_
  refine o_w (v:=.int .i64 (IntKind.i64.wrap ((Int.tmod (IntKind.i64.wrap d2) (8:Int)) + (1:Int)))) (r_int rfl rfl rfl) ?_
  refine o_w (v:=.int .i64 (IntKind.i64.wrap ((Int.tmod (IntKind.i64.wrap d2) (8:Int)) + (1:Int)))) (r_asg rfl) ?_
  refine eo_nil_sq ?_
  refine ec_seq ?_
  refine ec_region ?_
  refine o_w (v:=.int .u8 d3) (r_mov rfl) ?_
  refine o_w (v:=.int .i64 (IntKind.i64.wrap d3)) (r_conv un_uint8 un_int rfl) ?_
  refine o_w (v:=.int .i64 (Int.tmod (IntKind.i64.wrap d3) (4:Int))) (r_rem rfl rfl rfl) ?_
  refine o_w (v:=.int .i64 (IntKind.i64.wrap ((Int.tmod (IntKind.i64.wrap d3) (4:Int)) + (1:Int)))) (r_int rfl rfl rfl) ?_
  refine o_w (v:=.int .i64 (IntKind.i64.wrap ((Int.tmod (IntKind.i64.wrap d3) (4:Int)) + (1:Int)))) (r_asg rfl) ?_
  refine eo_nil_sq ?_
  iterate 2 refine ec_seq ?_
  refine ec_region ?_
  refine o_w (v:=.bool ((fewB d0)&&(fewA d1))) (r_mov rfl) ?_
  refine o_w (v:=.bool (!((fewB d0)&&(fewA d1)))) (r_not rfl) ?_
  refine o_w (v:=.bool (!((fewB d0)&&(fewA d1)))) (r_mov rfl) ?_
  refine o_vg (v:=.agg (cArena d1 A4 c5 A7 c8).toArray) (want_cf (t:=39) rfl rfl) (fun hk=>(r_lda agg_api_Arena rfl (vs:=(cArena d1 A4 c5 A7 c8)) rfl ((S13.fr ((G20.trans (Fr.ext F24)).trans (Fr.ext F29)) (fun _ h=>h)).now.part (n:=3) rfl))) rfl rfl ?_
  obtain ⟨ha36,h⟩:=h
  refine o_callg (V:=.int .i64 (checkA d1)) cf_arena_Check (want_cf (t:=39) rfl rfl) (fun hk=>(mapv1 (gdT hk))) (fun hk=>(arena_Check_c d1 (kArena_mk (d:=d1) (H6.up G31 (fun _ h=>h) (upc (.inr m11) (fun _ h=>.inl h))) (H9.up G31 (fun _ h=>h) (upc (.inr m11) (fun _ h=>.inl h)))) ((hL.fr E30).cons ((((B10.ex F13).ex F17).ex F24).ex F29).lt) (arCheck_ev d1 (ha36 hk)))) rfl ?_
  intro w35 F35
  have E37:=E30.trans F35
  refine o_vg (v:=.bool ((checkA d1) != (0:Int))) (want_cf (t:=39) rfl rfl) (fun hk=>(r_int (gdT hk) rfl rfl)) rfl rfl ?_
  refine o_w (v:=.bool ((!((fewB d0)&&(fewA d1)))||((checkA d1) != (0:Int)))) (r_pickOr rfl rfl (fun hf=>(gdT (notT hf)))) ?_
  refine eo_nil_sq ?_
  refine ec_cond rfl (fun hc41=>?_) (fun hc41=>?_)
  ·replace h:=h.1 hc41
   refine ec_seq ?_
   refine ec_region ?_
   refine o_w (v:=.bool (worksV)) (r_mov rfl) ?_
   refine o_w (v:=.bool (worksV)) (r_asg rfl) ?_
   refine eo_nil_sq ?_
   refine ec_ret ?_
   refine sq_ret ?_
   subst h
   exact (end1 rfl ⟨_,rfl,E37,rfl⟩)
  ·replace h:=h.2 hc41
   refine ec_skip ?_
   refine sq_n ?_
   refine ec_seq ?_
   refine ec_region ?_
   refine o_w (v:=.agg (cBuf d0 A1 c2).toArray) (r_lda agg_buffer_Buffer rfl (vs:=(cBuf d0 A1 c2)) rfl ((((((B10.ex F13).ex F17).ex F24).ex F29).ex F35).part (n:=3) rfl)) ?_
   refine o_w (v:=.agg (cArena d1 A4 c5 A7 c8).toArray) (r_lda agg_api_Arena rfl (vs:=(cArena d1 A4 c5 A7 c8)) rfl ((S13.fr (((G20.trans (Fr.ext F24)).trans (Fr.ext F29)).trans (Fr.ext F35)) (fun _ h=>h)).now.part (n:=3) rfl)) ?_
   refine o_w (v:=.int .i64 (IntKind.i64.wrap ((Int.tmod (IntKind.i64.wrap d2) (8:Int)) + (1:Int)))) (r_mov rfl) ?_
   obtain ⟨ha43,h⟩:=h
   obtain ⟨ha44,h⟩:=h
   obtain ⟨x42,hx42,h⟩:=h
   refine o_call cf_buffer_Mend rfl (buffer_Mend_c d0 (kBuf_mk (d:=d0) (H3.up (G31.trans (Fr.ext F35)) (fun _ h=>h) (upc (.inr m11) (fun _ h=>.inl h)))) d1 (kArena_mk (d:=d1) (H6.up (G31.trans (Fr.ext F35)) (fun _ h=>h) (upc (.inr m11) (fun _ h=>.inl h))) (H9.up (G31.trans (Fr.ext F35)) (fun _ h=>h) (upc (.inr m11) (fun _ h=>.inl h)))) (IntKind.i64.wrap ((Int.tmod (IntKind.i64.wrap d2) (8:Int)) + (1:Int))) ((hL.fr E37).cons (((((B10.ex F13).ex F17).ex F24).ex F29).ex F35).lt) (eq_ev hx42 (bufMend_ev d0 d1 (IntKind.i64.wrap ((Int.tmod (IntKind.i64.wrap d2) (8:Int)) + (1:Int))) ha43 ha44))) rfl rfl ?_
   rintro _ w42 ⟨F42,cs45,rfl,H46⟩
   have E47:=E37.trans F42
   have G49:=(((G20.trans (Fr.ext F24)).trans (Fr.ext F29)).trans (Fr.ext F35)).trans (Fr.ext F42)
   obtain ⟨A51,c52,rfl,H53⟩:=kBuf_open H46
   refine o_alloc zero_buffer_Buffer rfl rfl rfl ?_
   intro b54 w54 e54 F54 B54
   have n54:w.heap.size≤b54:=by rw [e54]; exact E47.size
   have q55:b10<b54:=by rw [e54]; exact ((((((B10.ex F13).ex F17).ex F24).ex F29).ex F35).ex F42).lt
   have m56:w.heap.size≤b54:=by rw [e54]; exact ((G31.trans (Fr.ext F35)).trans (Fr.ext F42)).size
   have m57:w13.heap.size≤b54:=by rw [e54]; exact G49.size
   have E59:=E47.trans F54
   refine o_store rfl B54 (vs:=(cBuf x42 A51 c52)) rfl sz_buffer_Buffer rfl rfl rfl ?_
   intro w64 F64 B64
   have E65:=Ext.st E59 F64 (by simp; omega)
   have G66:Fr L w w64:=(((G31.trans (Fr.ext F35)).trans (Fr.ext F42)).trans (Fr.ext F54)).stp F64 (upc (.inr m56) (fun m hm=>by cases hm))
   have G67:Fr (b10::L) w13 w64:=(G49.trans (Fr.ext F54)).stp F64 (upc (.inr m57) (fun m hm=>by cases hm))
   have B69:=(((((((B10.ex F13).ex F17).ex F24).ex F29).ex F35).ex F42).ex F54).fr F64 (by simp; omega)
   have B64':Blk w64 b54 _ (cBuf x42 A51 c52):=B64
   refine eo_nil_sq ?_
   refine ec_seq ?_
   refine ec_region ?_
   refine o_w (v:=.int .i64 (0:Int)) (r_asg rfl) ?_
   refine eo_nil_sq ?_
   iterate 2 refine ec_seq ?_
   refine ec_region ?_
   refine o_w (v:=.int .i64 (0:Int)) (r_asg rfl) ?_
   refine eo_nil_sq ?_
   refine ec_block ?_
   obtain ⟨x70,hl70,h⟩:=h
   refine ec_loopER 0 (I:=(fun (s70:Int × Int × Int × Int × List Nm) ρ ds w'=>∃ (ρ':Env) (A70i5:Option Addr) (c70i5:Nat),ρ=envs ρ' [(14,.int .i64 s70.1),(15,.int .i64 s70.2.1),(4,.pointer (some ⟨b10,0,none⟩)),(5,.pointer (some ⟨b13,0,none⟩)),(9,.bool (worksV)),(11,.int .i64 (IntKind.i64.wrap ((Int.tmod (IntKind.i64.wrap d2) (8:Int)) + (1:Int)))),(12,.int .i64 (IntKind.i64.wrap ((Int.tmod (IntKind.i64.wrap d3) (4:Int)) + (1:Int)))),(13,.pointer (some ⟨b54,0,none⟩))]∧ds=[]∧Fr (b54::(b10::L)) w64 w'∧Ext w w'∧Stb (b54::(b10::L)) w' (fun w=>SlC kNm w A70i5 c70i5 s70.2.2.2.2)∧Blk w' b10 24 [.int .i64 s70.2.2.1,.int .i64 s70.2.2.2.1,.slice A70i5 s70.2.2.2.2.length c70i5]∧Blk w' b54 24 (cBuf x42 A51 c52))) (J:=(fun (y':Bool) ρ ds wz=>bodyE Try.prog #[.tmp 8] (Ret fun v w'=>Ext w w'∧v=.bool y') .ret ρ ds wz)) ?_ hl70 ?_ ?_ ?_
   ·intro s70 z70 ρ70 ds70 w70r hI70 hb70
    obtain ⟨ρ70r,A70r5,c70r5,rfl,rfl,F70r,E70r,H70r5,B70rb10,B70rb54⟩:=hI70
    have h:=hb70
    unfold law17_PushGoes_b70 at h
    have G71:Fr L w w70r:=G66.stp F70r (upc (.inr m56) (upc (.inr m11) (fun _ h=>.inl h)))
    have G72:Fr (b10::L) w13 w70r:=G67.stp F70r (upc (.inr m57) (upc (.inl (List.Mem.head _)) (fun m hm=>Or.inl (List.Mem.tail _ hm))))
    iterate 2 refine ec_seq ?_
    refine ec_region ?_
    refine o_w (v:=.int .i64 s70.2.1) (r_mov rfl) ?_
    refine o_w (v:=.bool (decide (s70.2.1<(9:Int)))) (r_int rfl rfl rfl) ?_
    refine eo_nil_sq ?_
    refine ec_cond rfl (fun hc74=>?_) (fun hc74=>?_)
    ·replace h:=h.1 hc74
     refine ec_skip ?_
     refine sq_n ?_
     refine ec_seq ?_
     refine ec_block ?_
     refine ec_seq ?_
     refine ec_region ?_
     refine o_w (v:=.agg #[.int .i64 s70.2.2.1,.int .i64 s70.2.2.2.1,.slice A70r5 s70.2.2.2.2.length c70r5]) (r_lda agg_buffer_Buffer rfl (vs:=[.int .i64 s70.2.2.1,.int .i64 s70.2.2.2.1,.slice A70r5 s70.2.2.2.2.length c70r5]) rfl (B70rb10.part (n:=3) rfl)) ?_
     refine o_w (v:=.agg (cArena d1 A4 c5 A7 c8).toArray) (r_lda agg_api_Arena rfl (vs:=(cArena d1 A4 c5 A7 c8)) rfl ((S13.fr G72 (fun _ h=>h)).now.part (n:=3) rfl)) ?_
     refine o_w (v:=.int .i64 (IntKind.i64.wrap ((Int.tmod (IntKind.i64.wrap d2) (8:Int)) + (1:Int)))) (r_mov rfl) ?_
     refine o_w (v:=.int .i64 (IntKind.i64.wrap ((Int.tmod (IntKind.i64.wrap d3) (4:Int)) + (1:Int)))) (r_mov rfl) ?_
     obtain ⟨ha76,h⟩:=h
     obtain ⟨ha77,h⟩:=h
     obtain ⟨x75,hx75,h⟩:=h
     refine o_call cf_push_Send rfl (push_Send_c (⟨s70.2.2.1,s70.2.2.2.1,s70.2.2.2.2⟩:Buf) (kBuf_mk (d:=(⟨s70.2.2.1,s70.2.2.2.1,s70.2.2.2.2⟩:Buf)) H70r5) d1 (kArena_mk (d:=d1) (H6.up G71 (fun _ h=>h) (upc (.inr m56) (upc (.inr m11) (fun _ h=>.inl h)))) (H9.up G71 (fun _ h=>h) (upc (.inr m56) (upc (.inr m11) (fun _ h=>.inl h))))) (IntKind.i64.wrap ((Int.tmod (IntKind.i64.wrap d2) (8:Int)) + (1:Int))) (IntKind.i64.wrap ((Int.tmod (IntKind.i64.wrap d3) (4:Int)) + (1:Int))) (((hL.fr E70r).cons B70rb10.lt).cons B70rb54.lt) (eq_ev hx75 (puSend_ev (⟨s70.2.2.1,s70.2.2.2.1,s70.2.2.2.2⟩:Buf) d1 (IntKind.i64.wrap ((Int.tmod (IntKind.i64.wrap d2) (8:Int)) + (1:Int))) (IntKind.i64.wrap ((Int.tmod (IntKind.i64.wrap d3) (4:Int)) + (1:Int))) ha76 ha77))) rfl rfl ?_
     rintro _ w75 ⟨F75,cs78,rfl,H79⟩
     have E80:=E70r.trans F75
     have G84:Fr (b54::(b10::L)) w70r w75:=Fr.ext F75
     obtain ⟨A89,c90,rfl,H91,hl88⟩:=kFrm_open H79
     refine o_w (v:=.tuple #[.agg (cFrm x75.1 A89 c90).toArray,.bool x75.2]) (r_mov rfl) ?_
     refine o_w (v:=.agg (cFrm x75.1 A89 c90).toArray) (r_ext rfl rfl) ?_
     refine o_w (v:=.bool x75.2) (r_ext rfl rfl) ?_
     refine o_alloc zero_frame_Frame rfl rfl rfl ?_
     intro b92 w92 e92 F92 B92
     have n92:w.heap.size≤b92:=by rw [e92]; exact E80.size
     have q93:b10<b92:=by rw [e92]; exact (B70rb10.ex F75).lt
     have q94:b54<b92:=by rw [e92]; exact (B70rb54.ex F75).lt
     have m95:w.heap.size≤b92:=by rw [e92]; exact (G71.trans (Fr.ext F75)).size
     have m96:w13.heap.size≤b92:=by rw [e92]; exact (G72.trans (Fr.ext F75)).size
     have m98:w70r.heap.size≤b92:=by rw [e92]; exact G84.size
     have m99:w64.heap.size≤b92:=by rw [e92]; exact (F70r.trans (Fr.ext F75)).size
     have m100:w75.heap.size≤b92:=Nat.le_of_eq e92.symm
     have E101:=E80.trans F92
     have G107:Fr (b54::(b10::L)) w75 w92:=Fr.ext F92
     refine o_store rfl B92 (vs:=(cFrm x75.1 A89 c90)) rfl sz_frame_Frame rfl rfl rfl ?_
     intro w110 F110 B110
     have E111:=Ext.st E101 F110 (by simp; omega)
     have G112:Fr L w w110:=((G71.trans (Fr.ext F75)).trans (Fr.ext F92)).stp F110 (upc (.inr m95) (fun m hm=>by cases hm))
     have G113:Fr (b10::L) w13 w110:=((G72.trans (Fr.ext F75)).trans (Fr.ext F92)).stp F110 (upc (.inr m96) (fun m hm=>by cases hm))
     have G115:Fr (b54::(b10::L)) w70r w110:=(G84.trans (Fr.ext F92)).stp F110 (upc (.inr m98) (fun m hm=>by cases hm))
     have G116:Fr (b54::(b10::L)) w64 w110:=((F70r.trans (Fr.ext F75)).trans (Fr.ext F92)).stp F110 (upc (.inr m99) (fun m hm=>by cases hm))
     have G117:Fr (b54::(b10::L)) w75 w110:=G107.stp F110 (upc (.inr m100) (fun m hm=>by cases hm))
     have B118:=((B70rb10.ex F75).ex F92).fr F110 (by simp; omega)
     have B119:=((B70rb54.ex F75).ex F92).fr F110 (by simp; omega)
     have B110':Blk w110 b92 _ (cFrm x75.1 A89 c90):=B110
     refine o_w (v:=.bool x75.2) (r_asg rfl) ?_
     refine eo_nil_sq ?_
     iterate 2 refine ec_seq ?_
     refine ec_region ?_
     refine o_w (v:=.bool x75.2) (r_mov rfl) ?_
     refine o_w (v:=.bool (!x75.2)) (r_not rfl) ?_
     refine eo_nil_sq ?_
     refine ec_cond rfl (fun hc120=>?_) (fun hc120=>?_)
     ·replace h:=h.1 hc120
      refine ec_seq ?_
      refine ec_region ?_
      iterate 2 refine o_w (v:=.bool (worksV)) (r_mov rfl) ?_
      refine o_v (v:=.int .i64 s70.1) (r_mov rfl) (want_t (t:=64) rfl rfl (of_not hc22)) rfl rfl ?_
      refine o_v (v:=.pointer (some ⟨b54,2,none⟩)) (r_fa fld_buffer_Buffer_2 rfl rfl) (want_t (t:=64) rfl rfl (of_not hc22)) rfl rfl ?_
      refine o_v (v:=.slice A51 x42.names.length c52) (r_ld one_s_buffer_Name rfl (B119.cell rfl)) (want_t (t:=64) rfl rfl (of_not hc22)) rfl rfl ?_
      refine o_v (v:=.int .i64 (x42.names.length:Int)) (r_len_slc un_s_buffer_Name rfl) (want_t (t:=64) rfl rfl (of_not hc22)) rfl rfl ?_
      refine o_v (v:=.bool (s70.1==(x42.names.length:Int))) (r_int rfl rfl rfl) (want_t (t:=64) rfl rfl (of_not hc22)) rfl rfl ?_
      refine o_w (v:=.bool (s70.1==(x42.names.length:Int))) (r_pickT rfl (of_not hc22) rfl) ?_
      refine o_w (v:=.bool (s70.1==(x42.names.length:Int))) (r_mov rfl) ?_
      rcases Bool.eq_false_or_eq_true (s70.1==(x42.names.length:Int)) with hc121 | hc121
      ·replace h:=h.1 hc121
       refine o_v (v:=.agg #[.int .i64 s70.2.2.1,.int .i64 s70.2.2.2.1,.slice A70r5 s70.2.2.2.2.length c70r5]) (r_lda agg_buffer_Buffer rfl (vs:=[.int .i64 s70.2.2.1,.int .i64 s70.2.2.2.1,.slice A70r5 s70.2.2.2.2.length c70r5]) rfl (B118.part (n:=3) rfl)) (want_t (t:=71) rfl rfl hc121) rfl rfl ?_
       refine o_v (v:=.agg (cArena d1 A4 c5 A7 c8).toArray) (r_lda agg_api_Arena rfl (vs:=(cArena d1 A4 c5 A7 c8)) rfl ((S13.fr G113 (fun _ h=>h)).now.part (n:=3) rfl)) (want_t (t:=71) rfl rfl hc121) rfl rfl ?_
       refine o_v (v:=.int .i64 (IntKind.i64.wrap ((Int.tmod (IntKind.i64.wrap d2) (8:Int)) + (1:Int)))) (r_mov rfl) (want_t (t:=71) rfl rfl hc121) rfl rfl ?_
       obtain ⟨ha123,h⟩:=h
       obtain ⟨ha124,h⟩:=h
       obtain ⟨x122,hx122,h⟩:=h
       refine o_call cf_buffer_Mend rfl (buffer_Mend_c (⟨s70.2.2.1,s70.2.2.2.1,s70.2.2.2.2⟩:Buf) (kBuf_mk (d:=(⟨s70.2.2.1,s70.2.2.2.1,s70.2.2.2.2⟩:Buf)) (H70r5.up G115 (fun _ h=>h) (upc (.inr m98) (upc (.inl (List.Mem.head _)) (upc (.inl (List.Mem.tail _ (List.Mem.head _))) (fun m hm=>Or.inl (List.Mem.tail _ (List.Mem.tail _ hm)))))))) d1 (kArena_mk (d:=d1) (H6.up G112 (fun _ h=>h) (upc (.inr m95) (upc (.inr m56) (upc (.inr m11) (fun _ h=>.inl h))))) (H9.up G112 (fun _ h=>h) (upc (.inr m95) (upc (.inr m56) (upc (.inr m11) (fun _ h=>.inl h)))))) (IntKind.i64.wrap ((Int.tmod (IntKind.i64.wrap d2) (8:Int)) + (1:Int))) ((((hL.fr E111).cons B118.lt).cons B119.lt).cons B110'.lt) (eq_ev hx122 (bufMend_ev (⟨s70.2.2.1,s70.2.2.2.1,s70.2.2.2.2⟩:Buf) d1 (IntKind.i64.wrap ((Int.tmod (IntKind.i64.wrap d2) (8:Int)) + (1:Int))) ha123 ha124))) (want_t (t:=71) rfl rfl hc121) rfl ?_
       rintro _ w122 ⟨F122,cs125,rfl,H126⟩
       have E127:=E111.trans F122
       obtain ⟨A137,c138,rfl,H139⟩:=kBuf_open H126
       refine o_v (v:=.slice A137 x122.names.length c138) (r_fld fldv_buffer_Buffer_2 one_s_buffer_Name rfl rfl) (want_t (t:=71) rfl rfl hc121) rfl rfl ?_
       refine o_v (v:=.int .i64 (x122.names.length:Int)) (r_len_slc un_s_buffer_Name rfl) (want_t (t:=71) rfl rfl hc121) rfl rfl ?_
       refine o_v (v:=.bool ((x122.names.length:Int)==(0:Int))) (r_int rfl rfl rfl) (want_t (t:=71) rfl rfl hc121) rfl rfl ?_
       refine o_w (v:=.bool ((x122.names.length:Int)==(0:Int))) (r_pickT rfl hc121 rfl) ?_
       refine o_w (v:=.bool ((x122.names.length:Int)==(0:Int))) (r_asg rfl) ?_
       refine eo_nil_sq ?_
       refine ec_ret ?_
       refine sq_ret ?_
       refine blk_ret ?_
       refine sq_ret ?_
       subst h
       exact lqR_r (end1 rfl ⟨_,rfl,E127,rfl⟩)
      ·replace h:=h.2 hc121
       iterate 7 refine o_no (want_f (t:=71) rfl rfl hc121) rfl ?_
       refine o_w (v:=.bool false) (r_pickF rfl hc121 rfl) ?_
       refine o_w (v:=.bool false) (r_asg rfl) ?_
       refine eo_nil_sq ?_
       refine ec_ret ?_
       refine sq_ret ?_
       refine blk_ret ?_
       refine sq_ret ?_
       subst h
       exact lqR_r (end1 rfl ⟨_,rfl,E111,rfl⟩)
     ·replace h:=h.2 hc120
      refine ec_skip ?_
      refine sq_n ?_
      refine ec_seq ?_
      refine ec_region ?_
      refine o_w (v:=.agg (cFrm x75.1 A89 c90).toArray) (r_lda agg_frame_Frame rfl (vs:=(cFrm x75.1 A89 c90)) rfl (B110'.part (n:=8) rfl)) ?_
      obtain ⟨ha141,h⟩:=h
      obtain ⟨ha142,h⟩:=h
      obtain ⟨x140,hx140,h⟩:=h
      refine o_call cf_push_Heard rfl (push_Heard_c x75.1 (kFrm_mk (d:=x75.1) (H91.up G117 (fun _ h=>h) (upc (.inr m100) (upc (.inl (List.Mem.head _)) (upc (.inl (List.Mem.tail _ (List.Mem.head _))) (fun m hm=>Or.inl (List.Mem.tail _ (List.Mem.tail _ hm))))))) hl88) ((((hL.fr E111).cons B118.lt).cons B119.lt).cons B110'.lt) (eq_ev hx140 (puHeard_ev x75.1 ha141 ha142))) rfl rfl ?_
      rintro _ w140 ⟨F140,cs143,rfl,H144⟩
      have E145:=E111.trans F140
      obtain ⟨A156,c157,rfl,H158,hl155⟩:=kFrm_open H144
      refine o_w (v:=.tuple #[.agg (cFrm x140.1 A156 c157).toArray,.bool x140.2]) (r_mov rfl) ?_
      refine o_w (v:=.agg (cFrm x140.1 A156 c157).toArray) (r_ext rfl rfl) ?_
      refine o_w (v:=.bool x140.2) (r_ext rfl rfl) ?_
      refine o_alloc zero_frame_Frame rfl rfl rfl ?_
      intro b159 w159 e159 F159 B159
      have n159:w.heap.size≤b159:=by rw [e159]; exact E145.size
      have q160:b10<b159:=by rw [e159]; exact (B118.ex F140).lt
      have q161:b54<b159:=by rw [e159]; exact (B119.ex F140).lt
      have q162:b92<b159:=by rw [e159]; exact (B110'.ex F140).lt
      have m163:w.heap.size≤b159:=by rw [e159]; exact (G112.trans (Fr.ext F140)).size
      have m164:w13.heap.size≤b159:=by rw [e159]; exact (G113.trans (Fr.ext F140)).size
      have m166:w70r.heap.size≤b159:=by rw [e159]; exact (G115.trans (Fr.ext F140)).size
      have m167:w64.heap.size≤b159:=by rw [e159]; exact (G116.trans (Fr.ext F140)).size
      have m168:w75.heap.size≤b159:=by rw [e159]; exact (G117.trans (Fr.ext F140)).size
      have m169:w140.heap.size≤b159:=Nat.le_of_eq e159.symm
      have E170:=E145.trans F159
      have G177:Fr (b92::(b54::(b10::L))) w140 w159:=Fr.ext F159
      refine o_store rfl B159 (vs:=(cFrm x140.1 A156 c157)) rfl sz_frame_Frame rfl rfl rfl ?_
      intro w181 F181 B181
      have E182:=Ext.st E170 F181 (by simp; omega)
      have G183:Fr L w w181:=((G112.trans (Fr.ext F140)).trans (Fr.ext F159)).stp F181 (upc (.inr m163) (fun m hm=>by cases hm))
      have G184:Fr (b10::L) w13 w181:=((G113.trans (Fr.ext F140)).trans (Fr.ext F159)).stp F181 (upc (.inr m164) (fun m hm=>by cases hm))
      have G186:Fr (b54::(b10::L)) w70r w181:=((G115.trans (Fr.ext F140)).trans (Fr.ext F159)).stp F181 (upc (.inr m166) (fun m hm=>by cases hm))
      have G187:Fr (b54::(b10::L)) w64 w181:=((G116.trans (Fr.ext F140)).trans (Fr.ext F159)).stp F181 (upc (.inr m167) (fun m hm=>by cases hm))
      have G188:Fr (b54::(b10::L)) w75 w181:=((G117.trans (Fr.ext F140)).trans (Fr.ext F159)).stp F181 (upc (.inr m168) (fun m hm=>by cases hm))
      have G189:Fr (b92::(b54::(b10::L))) w140 w181:=G177.stp F181 (upc (.inr m169) (fun m hm=>by cases hm))
      have B190:=((B118.ex F140).ex F159).fr F181 (by simp; omega)
      have B191:=((B119.ex F140).ex F159).fr F181 (by simp; omega)
      have B192:=((B110'.ex F140).ex F159).fr F181 (by simp; omega)
      have B181':Blk w181 b159 _ (cFrm x140.1 A156 c157):=B181
      refine o_w (v:=.bool x140.2) (r_asg rfl) ?_
      refine eo_nil_sq ?_
      iterate 2 refine ec_seq ?_
      refine ec_region ?_
      refine o_w (v:=.agg (cFrm x75.1 A89 c90).toArray) (r_lda agg_frame_Frame rfl (vs:=(cFrm x75.1 A89 c90)) rfl (B192.part (n:=8) rfl)) ?_
      obtain ⟨ha195,h⟩:=h
      obtain ⟨ha196,h⟩:=h
      refine o_call cf_frame_Check rfl (frame_Check_c x75.1 (kFrm_mk (d:=x75.1) (H91.up G188 (fun _ h=>h) (upc (.inr m168) (upc (.inr m100) (upc (.inl (List.Mem.head _)) (upc (.inl (List.Mem.tail _ (List.Mem.head _))) (fun m hm=>Or.inl (List.Mem.tail _ (List.Mem.tail _ hm)))))))) hl88) (((((hL.fr E182).cons B190.lt).cons B191.lt).cons B192.lt).cons B181'.lt) (frCheck_ev x75.1 ha195 ha196)) rfl rfl ?_
      rintro _ w194 ⟨F194,rfl⟩
      have E197:=E182.trans F194
      refine o_w (v:=.bool ((checkF x75.1) != (0:Int))) (r_int rfl rfl rfl) ?_
      refine o_w (v:=.bool ((checkF x75.1) != (0:Int))) (r_mov rfl) ?_
      refine o_vg (v:=.bool x140.2) (want_cf (t:=88) rfl rfl) (fun hk=>(r_mov rfl)) rfl rfl ?_
      refine o_vg (v:=.bool (!x140.2)) (want_cf (t:=88) rfl rfl) (fun hk=>(r_not (gdT hk))) rfl rfl ?_
      refine o_w (v:=.bool (((checkF x75.1) != (0:Int))||(!x140.2))) (r_pickOr rfl rfl (fun hf=>(gdT (notT hf)))) ?_
      refine o_w (v:=.bool (((checkF x75.1) != (0:Int))||(!x140.2))) (r_mov rfl) ?_
      refine o_vg (v:=.agg (cFrm x140.1 A156 c157).toArray) (want_cf (t:=92) rfl rfl) (fun hk=>(r_lda agg_frame_Frame rfl (vs:=(cFrm x140.1 A156 c157)) rfl ((B181'.ex F194).part (n:=8) rfl))) rfl rfl ?_
      obtain ⟨ha210,h⟩:=h
      obtain ⟨ha211,h⟩:=h
      refine o_callg (V:=.int .i64 (checkF x140.1)) cf_frame_Check (want_cf (t:=92) rfl rfl) (fun hk=>(mapv1 (gdT hk))) (fun hk=>(frame_Check_c x140.1 (kFrm_mk (d:=x140.1) (H158.up (G189.trans (Fr.ext F194)) (fun _ h=>h) (upc (.inr m169) (upc (.inl (List.Mem.head _)) (upc (.inl (List.Mem.tail _ (List.Mem.head _))) (upc (.inl (List.Mem.tail _ (List.Mem.tail _ (List.Mem.head _)))) (fun m hm=>Or.inl (List.Mem.tail _ (List.Mem.tail _ (List.Mem.tail _ hm))))))))) hl155) (((((hL.fr E197).cons (B190.ex F194).lt).cons (B191.ex F194).lt).cons (B192.ex F194).lt).cons (B181'.ex F194).lt) (frCheck_ev x140.1 (ha210 hk) (ha211 hk)))) rfl ?_
      intro w209 F209
      have E212:=E197.trans F209
      refine o_vg (v:=.bool ((checkF x140.1) != (0:Int))) (want_cf (t:=92) rfl rfl) (fun hk=>(r_int (gdT hk) rfl rfl)) rfl rfl ?_
      refine o_w (v:=.bool ((((checkF x75.1) != (0:Int))||(!x140.2))||((checkF x140.1) != (0:Int)))) (r_pickOr rfl rfl (fun hf=>(gdT (notT hf)))) ?_
      refine o_w (v:=.bool ((((checkF x75.1) != (0:Int))||(!x140.2))||((checkF x140.1) != (0:Int)))) (r_mov rfl) ?_
      refine o_vg (v:=.pointer (some ⟨b92,7,none⟩)) (want_cf (t:=97) rfl rfl) (fun hk=>(r_fa fld_frame_Frame_4 rfl rfl)) rfl rfl ?_
      refine o_vg (v:=.slice A89 x75.1.entries.length c90) (want_cf (t:=97) rfl rfl) (fun hk=>(r_ld one_s_api_Entry (gdT hk) (((B192.ex F194).ex F209).cell rfl))) rfl rfl ?_
      refine o_vg (v:=.int .i64 (x75.1.entries.length:Int)) (want_cf (t:=97) rfl rfl) (fun hk=>(r_len_slc un_s_api_Entry (gdT hk))) rfl rfl ?_
      refine o_vg (v:=.bool (decide ((x75.1.entries.length:Int)<(1:Int)))) (want_cf (t:=97) rfl rfl) (fun hk=>(r_int (gdT hk) rfl rfl)) rfl rfl ?_
      refine o_w (v:=.bool (((((checkF x75.1) != (0:Int))||(!x140.2))||((checkF x140.1) != (0:Int)))||(decide ((x75.1.entries.length:Int)<(1:Int))))) (r_pickOr rfl rfl (fun hf=>(gdT (notT hf)))) ?_
      refine o_w (v:=.bool (((((checkF x75.1) != (0:Int))||(!x140.2))||((checkF x140.1) != (0:Int)))||(decide ((x75.1.entries.length:Int)<(1:Int))))) (r_mov rfl) ?_
      refine o_vg (v:=.pointer (some ⟨b92,7,none⟩)) (want_cf (t:=103) rfl rfl) (fun hk=>(r_fa fld_frame_Frame_4 rfl rfl)) rfl rfl ?_
      refine o_vg (v:=.slice A89 x75.1.entries.length c90) (want_cf (t:=103) rfl rfl) (fun hk=>(r_ld one_s_api_Entry (gdT hk) (((B192.ex F194).ex F209).cell rfl))) rfl rfl ?_
      refine o_vg (v:=.int .i64 (x75.1.entries.length:Int)) (want_cf (t:=103) rfl rfl) (fun hk=>(r_len_slc un_s_api_Entry (gdT hk))) rfl rfl ?_
      refine o_vg (v:=.int .i64 (IntKind.i64.wrap ((Int.tmod (IntKind.i64.wrap d3) (4:Int)) + (1:Int)))) (want_cf (t:=103) rfl rfl) (fun hk=>(r_mov rfl)) rfl rfl ?_
      refine o_vg (v:=.bool (decide ((IntKind.i64.wrap ((Int.tmod (IntKind.i64.wrap d3) (4:Int)) + (1:Int)))<(x75.1.entries.length:Int)))) (want_cf (t:=103) rfl rfl) (fun hk=>(r_int (gdT hk) (gdT hk) rfl)) rfl rfl ?_
      refine o_w (v:=.bool ((((((checkF x75.1) != (0:Int))||(!x140.2))||((checkF x140.1) != (0:Int)))||(decide ((x75.1.entries.length:Int)<(1:Int))))||(decide ((IntKind.i64.wrap ((Int.tmod (IntKind.i64.wrap d3) (4:Int)) + (1:Int)))<(x75.1.entries.length:Int))))) (r_pickOr rfl rfl (fun hf=>(gdT (notT hf)))) ?_
      refine eo_nil_sq ?_
      refine ec_cond rfl (fun hc224=>?_) (fun hc224=>?_)
      ·replace h:=h.1 hc224
       refine ec_seq ?_
       refine ec_region ?_
       refine o_w (v:=.bool false) (r_asg rfl) ?_
       refine eo_nil_sq ?_
       refine ec_ret ?_
       refine sq_ret ?_
       refine blk_ret ?_
       refine sq_ret ?_
       subst h
       exact lqR_r (end1 rfl ⟨_,rfl,E212,rfl⟩)
      ·replace h:=h.2 hc224
       refine ec_skip ?_
       refine sq_n ?_
       refine ec_seq ?_
       refine ec_region ?_
       refine o_w (v:=.int .i64 s70.1) (r_mov rfl) ?_
       refine o_w (v:=.pointer (some ⟨b92,7,none⟩)) (r_fa fld_frame_Frame_4 rfl rfl) ?_
       refine o_w (v:=.slice A89 x75.1.entries.length c90) (r_ld one_s_api_Entry rfl (((B192.ex F194).ex F209).cell rfl)) ?_
       refine o_w (v:=.int .i64 (x75.1.entries.length:Int)) (r_len_slc un_s_api_Entry rfl) ?_
       refine o_w (v:=.int .i64 (IntKind.i64.wrap (s70.1 + (x75.1.entries.length:Int)))) (r_int rfl rfl rfl) ?_
       refine o_w (v:=.int .i64 (IntKind.i64.wrap (s70.1 + (x75.1.entries.length:Int)))) (r_asg rfl) ?_
       refine eo_nil_sq ?_
       refine ec_region ?_
       refine o_w (v:=.agg #[.int .i64 s70.2.2.1,.int .i64 s70.2.2.2.1,.slice A70r5 s70.2.2.2.2.length c70r5]) (r_lda agg_buffer_Buffer rfl (vs:=[.int .i64 s70.2.2.1,.int .i64 s70.2.2.2.1,.slice A70r5 s70.2.2.2.2.length c70r5]) rfl (((B190.ex F194).ex F209).part (n:=3) rfl)) ?_
       refine o_w (v:=.agg (cArena d1 A4 c5 A7 c8).toArray) (r_lda agg_api_Arena rfl (vs:=(cArena d1 A4 c5 A7 c8)) rfl ((S13.fr ((G184.trans (Fr.ext F194)).trans (Fr.ext F209)) (fun _ h=>h)).now.part (n:=3) rfl)) ?_
       refine o_w (v:=.int .i64 (IntKind.i64.wrap ((Int.tmod (IntKind.i64.wrap d2) (8:Int)) + (1:Int)))) (r_mov rfl) ?_
       refine o_w (v:=.agg (cFrm x140.1 A156 c157).toArray) (r_lda agg_frame_Frame rfl (vs:=(cFrm x140.1 A156 c157)) rfl (((B181'.ex F194).ex F209).part (n:=8) rfl)) ?_
       obtain ⟨ha226,h⟩:=h
       obtain ⟨ha227,h⟩:=h
       obtain ⟨ha228,h⟩:=h
       obtain ⟨ha229,h⟩:=h
       obtain ⟨x225,hx225,h⟩:=h
       refine o_call cf_push_Done rfl (push_Done_c (⟨s70.2.2.1,s70.2.2.2.1,s70.2.2.2.2⟩:Buf) (kBuf_mk (d:=(⟨s70.2.2.1,s70.2.2.2.1,s70.2.2.2.2⟩:Buf)) (H70r5.up ((G186.trans (Fr.ext F194)).trans (Fr.ext F209)) (fun _ h=>h) (upc (.inr m166) (upc (.inr m98) (upc (.inl (List.Mem.head _)) (upc (.inl (List.Mem.tail _ (List.Mem.head _))) (fun m hm=>Or.inl (List.Mem.tail _ (List.Mem.tail _ hm))))))))) d1 (kArena_mk (d:=d1) (H6.up ((G183.trans (Fr.ext F194)).trans (Fr.ext F209)) (fun _ h=>h) (upc (.inr m163) (upc (.inr m95) (upc (.inr m56) (upc (.inr m11) (fun _ h=>.inl h)))))) (H9.up ((G183.trans (Fr.ext F194)).trans (Fr.ext F209)) (fun _ h=>h) (upc (.inr m163) (upc (.inr m95) (upc (.inr m56) (upc (.inr m11) (fun _ h=>.inl h))))))) (IntKind.i64.wrap ((Int.tmod (IntKind.i64.wrap d2) (8:Int)) + (1:Int))) x140.1 (kFrm_mk (d:=x140.1) (H158.up ((G189.trans (Fr.ext F194)).trans (Fr.ext F209)) (fun _ h=>h) (upc (.inr m169) (upc (.inl (List.Mem.head _)) (upc (.inl (List.Mem.tail _ (List.Mem.head _))) (upc (.inl (List.Mem.tail _ (List.Mem.tail _ (List.Mem.head _)))) (fun m hm=>Or.inl (List.Mem.tail _ (List.Mem.tail _ (List.Mem.tail _ hm))))))))) hl155) (((((hL.fr E212).cons ((B190.ex F194).ex F209).lt).cons ((B191.ex F194).ex F209).lt).cons ((B192.ex F194).ex F209).lt).cons ((B181'.ex F194).ex F209).lt) (eq_ev hx225 (puDone_ev (⟨s70.2.2.1,s70.2.2.2.1,s70.2.2.2.2⟩:Buf) d1 (IntKind.i64.wrap ((Int.tmod (IntKind.i64.wrap d2) (8:Int)) + (1:Int))) x140.1 ha226 ha227 ha228 ha229))) rfl rfl ?_
       rintro _ w225 ⟨F225,cs230,rfl,H231⟩
       have E232:=E212.trans F225
       have G237:=((G187.trans (Fr.ext F194)).trans (Fr.ext F209)).trans (Fr.ext F225)
       obtain ⟨A244,c245,rfl,H246⟩:=kBuf_open H231
       refine o_store rfl (((B190.ex F194).ex F209).ex F225) (vs:=(cBuf x225 A244 c245)) rfl sz_buffer_Buffer rfl rfl rfl ?_
       intro w247 F247 B247
       have E248:=Ext.st E232 F247 (by simp; omega)
       have G253:Fr (b54::(b10::L)) w64 w247:=G237.stp F247 (upc (.inl (List.Mem.tail _ (List.Mem.head _))) (fun m hm=>by cases hm))
       have G256:Fr (b159::(b92::(b54::(b10::L)))) w225 w247:=(Fr.refl _ _).stp F247 (upc (.inl (List.Mem.tail _ (List.Mem.tail _ (List.Mem.tail _ (List.Mem.head _))))) (fun m hm=>by cases hm))
       have B257:=(((B191.ex F194).ex F209).ex F225).fr F247 (by simp; omega)
       have B247':Blk w247 b10 _ (cBuf x225 A244 c245):=B247
       refine eo_nil ?_
       refine blk_n ?_
       refine sq_n ?_
       refine ec_region ?_
       refine o_w (v:=.int .i64 s70.2.1) (r_mov rfl) ?_
       refine o_w (v:=.int .i64 (IntKind.i64.wrap (s70.2.1 + (1:Int)))) (r_int rfl rfl rfl) ?_
       refine o_w (v:=.int .i64 (IntKind.i64.wrap (s70.2.1 + (1:Int)))) (r_asg rfl) ?_
       refine eo_nil ?_
       subst h
       exact lqR_n ⟨_,A244,c245,envs_self ⟨rfl,rfl,rfl,rfl,rfl,rfl,rfl,rfl,trivial⟩,rfl,G253,E248,(H246.up G256 (fun _ h=>h) (upc (.inl (List.Mem.tail _ (List.Mem.tail _ (List.Mem.head _)))) (upc (.inl (List.Mem.tail _ (List.Mem.tail _ (List.Mem.tail _ (List.Mem.head _))))) (fun m hm=>Or.inl (List.Mem.tail _ (List.Mem.tail _ (List.Mem.tail _ (List.Mem.tail _ hm)))))))),B247',B257⟩
    ·replace h:=h.2 hc74
     refine ec_exit ?_
     refine sq_exit ?_
     subst h
     exact lqR_x ⟨_,A70r5,c70r5,envs_self ⟨rfl,rfl,rfl,rfl,rfl,rfl,rfl,rfl,trivial⟩,rfl,F70r,E70r,H70r5,B70rb10,B70rb54⟩
   ·exact ⟨_,A1,c2,envs_self ⟨rfl,rfl,rfl,rfl,rfl,rfl,rfl,rfl,trivial⟩,rfl,(Fr.refl _ _),E65,(H3.up G66 (fun _ h=>h) (upc (.inr m56) (upc (.inr m11) (fun _ h=>.inl h)))),B69,B64'⟩
   ·rintro sx70 rfl ρ70e ds70e w70e ⟨ρ70e,A70e5,c70e5,rfl,rfl,F70e,E70e,H70e5,B70eb10,B70eb54⟩
    replace h:=h.1 _ rfl
    refine blk_hit ?_
    refine sq_n ?_
    refine ec_seq ?_
    refine ec_region ?_
    refine o_w (v:=.bool false) (r_asg rfl) ?_
    refine eo_nil_sq ?_
    refine ec_ret ?_
    subst h
    exact (end1 rfl ⟨_,rfl,E70e,rfl⟩)
   ·rintro y70 rfl ρ70q ds70q w70q hJ
    have hy:=h.2 _ rfl
    subst hy
    refine blk_ret ?_
    refine sq_ret ?_
    exact hJ
end Go.Proofs.Ythfkbabgkacfnaa
