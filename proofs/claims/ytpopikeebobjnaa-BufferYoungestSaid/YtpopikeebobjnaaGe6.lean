/- The law BufferYoungest: what it comes to. -/
import Derived.Test.YtpopikeebobjnaaFx
namespace Go.Proofs.Ytpopikeebobjnaa
open Go Go.RowKit
set_option linter.unusedVariables false
set_option linter.unusedSimpArgs false
def law16_BufferYoungest_b59 (d1:Arena) (d2:Int) (d3:(List Int)) (s59:List Nm × Int × Int × Int × List Nm) (z59:(List Nm × Int × Int × Int × List Nm) ⊕ (List Nm × Int × Int × Int × List Nm)):Prop :=
 ((decide (s59.2.1<(d3.length:Int)))=true→((0≤s59.2.1∧s59.2.1<(d3.length:Int))∧(((d1.slots.length:Int)==(0:Int))=false∧((0≤(Int.tmod (IntKind.i64.wrap (nth d3 s59.2.1)) (d1.slots.length:Int))∧(Int.tmod (IntKind.i64.wrap (nth d3 s59.2.1)) (d1.slots.length:Int))<(d1.slots.length:Int))∧((smN (⟨s59.2.2.1,s59.2.2.2.1,s59.2.2.2.2⟩:Buf))∧((sma d1)∧(∃ x172,x172=(noteB (⟨s59.2.2.1,s59.2.2.2.1,s59.2.2.2.2⟩:Buf) d1 (IntKind.i64.wrap ((Int.tmod (IntKind.i64.wrap d2) (8:Int)) + (1:Int))) (nth d1.slots (Int.tmod (IntKind.i64.wrap (nth d3 s59.2.1)) (d1.slots.length:Int))))∧((s59.1.length + 1≤9223372036854775807∧(s59.1.length + 1) * 24≤140737488355328)∧(z59=.inl ((s59.1++([(⟨((nth d1.slots (Int.tmod (IntKind.i64.wrap (nth d3 s59.2.1)) (d1.slots.length:Int))).val).kind,(nth d1.slots (Int.tmod (IntKind.i64.wrap (nth d3 s59.2.1)) (d1.slots.length:Int))).key⟩:Nm)]:List Nm)),(IntKind.i64.wrap (s59.2.1 + (1:Int))),x172.epoch,x172.first,x172.names))))))))))∧((decide (s59.2.1<(d3.length:Int)))=false→(z59=.inr (s59.1,s59.2.1,s59.2.2.1,s59.2.2.2.1,s59.2.2.2.2)))
def law16_BufferYoungest_b236 (d2:Int) (x59:List Nm × Int × Int × Int × List Nm) (s236:Int) (z236:(Int) ⊕ ((Int) ⊕ (Bool))):Prop :=
 ((decide (s236<(IntKind.i64.wrap ((Int.tmod (IntKind.i64.wrap d2) (8:Int)) + (1:Int)))))=true→((0≤s236∧s236<(x59.2.2.2.2.length:Int))∧((0≤(IntKind.i64.wrap ((IntKind.i64.wrap ((x59.1.length:Int) - (IntKind.i64.wrap ((Int.tmod (IntKind.i64.wrap d2) (8:Int)) + (1:Int))))) + s236))∧(IntKind.i64.wrap ((IntKind.i64.wrap ((x59.1.length:Int) - (IntKind.i64.wrap ((Int.tmod (IntKind.i64.wrap d2) (8:Int)) + (1:Int))))) + s236))<(x59.1.length:Int))∧(((!((((nth x59.2.2.2.2 s236).kind)==((nth x59.1 (IntKind.i64.wrap ((IntKind.i64.wrap ((x59.1.length:Int) - (IntKind.i64.wrap ((Int.tmod (IntKind.i64.wrap d2) (8:Int)) + (1:Int))))) + s236))).kind))&&((((nth x59.2.2.2.2 s236).key)==((nth x59.1 (IntKind.i64.wrap ((IntKind.i64.wrap ((x59.1.length:Int) - (IntKind.i64.wrap ((Int.tmod (IntKind.i64.wrap d2) (8:Int)) + (1:Int))))) + s236))).key))&&true)))=true→(z236=.inr (.inr false)))∧((!((((nth x59.2.2.2.2 s236).kind)==((nth x59.1 (IntKind.i64.wrap ((IntKind.i64.wrap ((x59.1.length:Int) - (IntKind.i64.wrap ((Int.tmod (IntKind.i64.wrap d2) (8:Int)) + (1:Int))))) + s236))).kind))&&((((nth x59.2.2.2.2 s236).key)==((nth x59.1 (IntKind.i64.wrap ((IntKind.i64.wrap ((x59.1.length:Int) - (IntKind.i64.wrap ((Int.tmod (IntKind.i64.wrap d2) (8:Int)) + (1:Int))))) + s236))).key))&&true)))=false→(z236=.inl (IntKind.i64.wrap (s236 + (1:Int)))))))))∧((decide (s236<(IntKind.i64.wrap ((Int.tmod (IntKind.i64.wrap d2) (8:Int)) + (1:Int)))))=false→(z236=.inr (.inl s236)))
def law16_BufferYoungest_raw (d0:Buf) (d1:Arena) (d2:Int) (d3:(List Int)) (y:Bool):Prop :=
 ((!(worksV))=true→(y=false))∧((!(worksV))=false→(((!((fewB d0)&&(fewA d1)))=true→(y=(worksV)))∧((!((fewB d0)&&(fewA d1)))=false→((sma d1)∧((((checkA d1) != (0:Int))=true→(y=(worksV)))∧(((checkA d1) != (0:Int))=false→((((d1.slots.length:Int)==(0:Int))=true→(y=(worksV)))∧(((d1.slots.length:Int)==(0:Int))=false→(((decide ((d3.length:Int)<(IntKind.i64.wrap ((Int.tmod (IntKind.i64.wrap d2) (8:Int)) + (1:Int)))))=true→(y=(worksV)))∧((decide ((d3.length:Int)<(IntKind.i64.wrap ((Int.tmod (IntKind.i64.wrap d2) (8:Int)) + (1:Int)))))=false→(((decide ((20:Int)<(d3.length:Int)))=true→(y=(worksV)))∧((decide ((20:Int)<(d3.length:Int)))=false→((smB d0)∧((sma d1)∧(∃ x46,x46=(mendB d0 d1 (IntKind.i64.wrap ((Int.tmod (IntKind.i64.wrap d2) (8:Int)) + (1:Int))))∧(((decide ((2147483000:Int)<x46.first))=true→(y=(worksV)))∧((decide ((2147483000:Int)<x46.first))=false→(∃ x59,LoopR (law16_BufferYoungest_b59 d1 d2 d3) (([]:List Nm),(0:Int),d0.epoch,d0.first,d0.names) x59∧((((x59.2.2.2.2.length:Int) != (IntKind.i64.wrap ((Int.tmod (IntKind.i64.wrap d2) (8:Int)) + (1:Int))))=true→(y=false))∧(((x59.2.2.2.2.length:Int) != (IntKind.i64.wrap ((Int.tmod (IntKind.i64.wrap d2) (8:Int)) + (1:Int))))=false→(∃ x236,LoopR (law16_BufferYoungest_b236 d2 x59) (0:Int) x236∧(∀ sx236,x236=.inl sx236→(y=(worksV)))∧(∀ y236,x236=.inr y236→(y=y236)))))))))))))))))))))))
set_option maxRecDepth 20000 in
set_option maxHeartbeats 4000000 in
theorem law16_BufferYoungest_c {L:List Nat} {w:World} {csP0:List Value} (d0:Buf) (HP0:Stb L w (fun w=>kBuf.r w csP0 d0)) {csP1:List Value} (d1:Arena) (HP1:Stb L w (fun w=>kArena.r w csP1 d1)) (d2:Int) {AP3:Option Addr} {cP3:Nat} (d3:(List Int)) (HP3:Stb L w (fun w=>SlC (kI .u8) w AP3 cP3 d3)) (hL:Lt L w) {y:Bool} (h:law16_BufferYoungest_raw d0 d1 d2 d3 y) :
  Calls Try.prog 8 [.agg csP0.toArray,.agg csP1.toArray,.int .u8 d2,.slice AP3 d3.length cP3].toArray w (Ret fun v w'=>Ext w w'∧v=.bool y):=by
 obtain ⟨A1,c2,rfl,H3⟩:=kBuf_open HP0
 obtain ⟨A4,c5,A7,c8,rfl,H6,H9⟩:=kArena_open HP1
 unfold law16_BufferYoungest_raw at h
 refine calls_ec Try.func8 rfl rfl rfl ?_
 refine ec_seq ?_
 refine ec_region ?_
 refine o_box (cs:=(cBuf d0 A1 c2)) rfl rfl rfl ?_
 intro b10 w10 e10 F10 B10
 have n10:w.heap.size≤b10:=Nat.le_of_eq e10.symm
 have m11:w.heap.size≤b10:=Nat.le_of_eq e10.symm
 have G12:Fr L w w10:=Fr.ext F10
 refine o_box (cs:=(cArena d1 A4 c5 A7 c8)) rfl rfl rfl ?_
 intro b13 w13 e13 F13 B13
 have S13:=B13.stb (nin ((hL.fr F10).cons B10.lt) e13)
 have E14:=F10.trans F13
 refine o_w (v:=.bool false) (r_asg rfl) ?_
 refine eo_nil_sq ?_
 refine ec_seq ?_
 refine ec_region ?_
 refine o_call cf_law16_works rfl (law16_works_c ((hL.fr E14).cons (B10.ex F13).lt) (works16_ev)) rfl rfl ?_
 rintro _ w17 ⟨F17,rfl⟩
 have E18:=E14.trans F17
 have G20:Fr (b10::L) w13 w17:=Fr.ext F17
 refine o_w (v:=.bool (worksV)) (r_asg rfl) ?_
 refine eo_nil_sq ?_
 iterate 2 refine ec_seq ?_
 refine ec_region ?_
 refine o_w (v:=.bool (worksV)) (r_mov rfl) ?_
 refine o_w (v:=.bool (!(worksV))) (r_not rfl) ?_
 refine eo_nil_sq ?_
 refine ec_cond rfl (fun hc22=>?_) (fun hc22=>?_)
 ·replace h:=h.1 hc22
  refine ec_seq ?_
  refine ec_region ?_
  refine o_w (v:=.bool false) (r_asg rfl) ?_
  refine eo_nil_sq ?_
  refine ec_ret ?_
  refine sq_ret ?_
  subst h
  exact (end1 rfl ⟨_,rfl,E18,rfl⟩)
 ·replace h:=h.2 hc22
  refine ec_skip ?_
  refine sq_n ?_
  refine ec_seq ?_
  refine ec_region ?_
  refine o_w (v:=.agg (cBuf d0 A1 c2).toArray) (r_lda agg_buffer_Buffer rfl (vs:=(cBuf d0 A1 c2)) rfl (((B10.ex F13).ex F17).part (n:=3) rfl)) ?_
  refine o_call cf_law16_Few rfl (law16_Few_c d0 (kBuf_mk (d:=d0) (H3.up ((G12.trans (Fr.ext F13)).trans (Fr.ext F17)) (fun _ h=>h) (upc (.inr m11) (fun _ h=>.inl h)))) ((hL.fr E18).cons ((B10.ex F13).ex F17).lt) (fewB_ev d0)) rfl rfl ?_
  rintro _ w24 ⟨F24,rfl⟩
  have E25:=E18.trans F24
  refine o_w (v:=.bool (fewB d0)) (r_mov rfl) ?_
  refine o_vg (v:=.agg (cArena d1 A4 c5 A7 c8).toArray) (want_ct (t:=21) rfl rfl) (fun hk=>(r_lda agg_api_Arena rfl (vs:=(cArena d1 A4 c5 A7 c8)) rfl ((S13.fr (G20.trans (Fr.ext F24)) (fun _ h=>h)).now.part (n:=3) rfl))) rfl rfl ?_
  refine o_callg (V:=.bool (fewA d1)) cf_law08_Few (want_ct (t:=21) rfl rfl) (fun hk=>(mapv1 (gdT hk))) (fun hk=>(law08_Few_c d1 (kArena_mk (d:=d1) (H6.up (((G12.trans (Fr.ext F13)).trans (Fr.ext F17)).trans (Fr.ext F24)) (fun _ h=>h) (upc (.inr m11) (fun _ h=>.inl h))) (H9.up (((G12.trans (Fr.ext F13)).trans (Fr.ext F17)).trans (Fr.ext F24)) (fun _ h=>h) (upc (.inr m11) (fun _ h=>.inl h)))) ((hL.fr E25).cons (((B10.ex F13).ex F17).ex F24).lt) (fewA_ev d1))) rfl ?_
  intro w29 F29
  have E30:=E25.trans F29
  have G31:=(((G12.trans (Fr.ext F13)).trans (Fr.ext F17)).trans (Fr.ext F24)).trans (Fr.ext F29)
  refine o_w (v:=.bool ((fewB d0)&&(fewA d1))) (r_pickAnd rfl (fun ht=>(gdT ht)) rfl) ?_
  refine o_w (v:=.bool ((fewB d0)&&(fewA d1))) (r_asg rfl) ?_
  refine eo_nil_sq ?_
  refine ec_seq ?_
  refine ec_region ?_
  refine o_w (v:=.int .u8 d2) (r_mov rfl) ?_
  refine o_w (v:=.int .i64 (IntKind.i64.wrap d2)) (r_conv un_uint8 un_int rfl) ?_
  refine o_w (v:=.int .i64 (Int.tmod (IntKind.i64.wrap d2) (8:Int))) (r_rem rfl rfl rfl) ?_
  refine o_w (v:=.int .i64 (IntKind.i64.wrap ((Int.tmod (IntKind.i64.wrap d2) (8:Int)) + (1:Int)))) (r_int rfl rfl rfl) ?_
  refine o_w (v:=.int .i64 (IntKind.i64.wrap ((Int.tmod (IntKind.i64.wrap d2) (8:Int)) + (1:Int)))) (r_asg rfl) ?_
  refine eo_nil_sq ?_
  iterate 2 refine ec_seq ?_
  refine ec_region ?_
  refine o_w (v:=.bool ((fewB d0)&&(fewA d1))) (r_mov rfl) ?_
  refine o_w (v:=.bool (!((fewB d0)&&(fewA d1)))) (r_not rfl) ?_
  refine o_w (v:=.bool (!((fewB d0)&&(fewA d1)))) (r_mov rfl) ?_
  rcases Bool.eq_false_or_eq_true (!((fewB d0)&&(fewA d1))) with hc35 | hc35
  ·replace h:=h.1 hc35
   iterate 3 refine o_no (want_f (t:=31) rfl rfl hc35) rfl ?_
   refine o_w (v:=.bool true) (r_pickT rfl hc35 rfl) ?_
   refine o_w (v:=.bool true) (r_mov rfl) ?_
   iterate 4 refine o_no (want_f (t:=36) rfl rfl rfl) rfl ?_
   refine o_w (v:=.bool true) (r_pickT rfl rfl rfl) ?_
   refine o_w (v:=.bool true) (r_mov rfl) ?_
   iterate 4 refine o_no (want_f (t:=42) rfl rfl rfl) rfl ?_
   refine o_w (v:=.bool true) (r_pickT rfl rfl rfl) ?_
   refine o_w (v:=.bool true) (r_mov rfl) ?_
   iterate 3 refine o_no (want_f (t:=48) rfl rfl rfl) rfl ?_
   refine o_w (v:=.bool true) (r_pickT rfl rfl rfl) ?_
   refine o_w (v:=.bool true) (r_mov rfl) ?_
   iterate 6 refine o_no (want_f (t:=53) rfl rfl rfl) rfl ?_
   refine o_w (v:=.bool true) (r_pickT rfl rfl rfl) ?_
   refine eo_nil_sq ?_
   refine ec_condT rfl rfl ?_
   refine ec_seq ?_
   refine ec_region ?_
   refine o_w (v:=.bool (worksV)) (r_mov rfl) ?_
   refine o_w (v:=.bool (worksV)) (r_asg rfl) ?_
   refine eo_nil_sq ?_
   refine ec_ret ?_
   refine sq_ret ?_
   subst h
   exact (end1 rfl ⟨_,rfl,E30,rfl⟩)
  ·replace h:=h.2 hc35
   refine o_v (v:=.agg (cArena d1 A4 c5 A7 c8).toArray) (r_lda agg_api_Arena rfl (vs:=(cArena d1 A4 c5 A7 c8)) rfl ((S13.fr ((G20.trans (Fr.ext F24)).trans (Fr.ext F29)) (fun _ h=>h)).now.part (n:=3) rfl)) (want_t (t:=31) rfl rfl hc35) rfl rfl ?_
   obtain ⟨ha37,h⟩:=h
   refine o_call cf_arena_Check rfl (arena_Check_c d1 (kArena_mk (d:=d1) (H6.up G31 (fun _ h=>h) (upc (.inr m11) (fun _ h=>.inl h))) (H9.up G31 (fun _ h=>h) (upc (.inr m11) (fun _ h=>.inl h)))) ((hL.fr E30).cons ((((B10.ex F13).ex F17).ex F24).ex F29).lt) (arCheck_ev d1 ha37)) (want_t (t:=31) rfl rfl hc35) rfl ?_
   rintro _ w36 ⟨F36,rfl⟩
   have E38:=E30.trans F36
   refine o_v (v:=.bool ((checkA d1) != (0:Int))) (r_int rfl rfl rfl) (want_t (t:=31) rfl rfl hc35) rfl rfl ?_
   refine o_w (v:=.bool ((checkA d1) != (0:Int))) (r_pickF rfl hc35 rfl) ?_
   refine o_w (v:=.bool ((checkA d1) != (0:Int))) (r_mov rfl) ?_
   rcases Bool.eq_false_or_eq_true ((checkA d1) != (0:Int)) with hc42 | hc42
   ·replace h:=h.1 hc42
    iterate 4 refine o_no (want_f (t:=36) rfl rfl hc42) rfl ?_
    refine o_w (v:=.bool true) (r_pickT rfl hc42 rfl) ?_
    refine o_w (v:=.bool true) (r_mov rfl) ?_
    iterate 4 refine o_no (want_f (t:=42) rfl rfl rfl) rfl ?_
    refine o_w (v:=.bool true) (r_pickT rfl rfl rfl) ?_
    refine o_w (v:=.bool true) (r_mov rfl) ?_
    iterate 3 refine o_no (want_f (t:=48) rfl rfl rfl) rfl ?_
    refine o_w (v:=.bool true) (r_pickT rfl rfl rfl) ?_
    refine o_w (v:=.bool true) (r_mov rfl) ?_
    iterate 6 refine o_no (want_f (t:=53) rfl rfl rfl) rfl ?_
    refine o_w (v:=.bool true) (r_pickT rfl rfl rfl) ?_
    refine eo_nil_sq ?_
    refine ec_condT rfl rfl ?_
    refine ec_seq ?_
    refine ec_region ?_
    refine o_w (v:=.bool (worksV)) (r_mov rfl) ?_
    refine o_w (v:=.bool (worksV)) (r_asg rfl) ?_
    refine eo_nil_sq ?_
    refine ec_ret ?_
    refine sq_ret ?_
    subst h
    exact (end1 rfl ⟨_,rfl,E38,rfl⟩)
   ·replace h:=h.2 hc42
    refine o_v (v:=.pointer (some ⟨b13,1,none⟩)) (r_fa fld_api_Arena_1 rfl rfl) (want_t (t:=36) rfl rfl hc42) rfl rfl ?_
    refine o_v (v:=.slice A4 d1.slots.length c5) (r_ld one_s_api_Entry rfl ((S13.fr (((G20.trans (Fr.ext F24)).trans (Fr.ext F29)).trans (Fr.ext F36)) (fun _ h=>h)).now.cell rfl)) (want_t (t:=36) rfl rfl hc42) rfl rfl ?_
    refine o_v (v:=.int .i64 (d1.slots.length:Int)) (r_len_slc un_s_api_Entry rfl) (want_t (t:=36) rfl rfl hc42) rfl rfl ?_
    refine o_v (v:=.bool ((d1.slots.length:Int)==(0:Int))) (r_int rfl rfl rfl) (want_t (t:=36) rfl rfl hc42) rfl rfl ?_
    refine o_w (v:=.bool ((d1.slots.length:Int)==(0:Int))) (r_pickF rfl hc42 rfl) ?_
    refine o_w (v:=.bool ((d1.slots.length:Int)==(0:Int))) (r_mov rfl) ?_
    rcases Bool.eq_false_or_eq_true ((d1.slots.length:Int)==(0:Int)) with hc43 | hc43
    ·replace h:=h.1 hc43
     iterate 4 refine o_no (want_f (t:=42) rfl rfl hc43) rfl ?_
     refine o_w (v:=.bool true) (r_pickT rfl hc43 rfl) ?_
     refine o_w (v:=.bool true) (r_mov rfl) ?_
     iterate 3 refine o_no (want_f (t:=48) rfl rfl rfl) rfl ?_
     refine o_w (v:=.bool true) (r_pickT rfl rfl rfl) ?_
     refine o_w (v:=.bool true) (r_mov rfl) ?_
     iterate 6 refine o_no (want_f (t:=53) rfl rfl rfl) rfl ?_
     refine o_w (v:=.bool true) (r_pickT rfl rfl rfl) ?_
     refine eo_nil_sq ?_
     refine ec_condT rfl rfl ?_
     refine ec_seq ?_
     refine ec_region ?_
     refine o_w (v:=.bool (worksV)) (r_mov rfl) ?_
     refine o_w (v:=.bool (worksV)) (r_asg rfl) ?_
     refine eo_nil_sq ?_
     refine ec_ret ?_
     refine sq_ret ?_
     subst h
     exact (end1 rfl ⟨_,rfl,E38,rfl⟩)
    ·replace h:=h.2 hc43
     refine o_v (v:=.slice AP3 d3.length cP3) (r_mov rfl) (want_t (t:=42) rfl rfl hc43) rfl rfl ?_
     refine o_v (v:=.int .i64 (d3.length:Int)) (r_len_slc un_s_uint8 rfl) (want_t (t:=42) rfl rfl hc43) rfl rfl ?_
     refine o_v (v:=.int .i64 (IntKind.i64.wrap ((Int.tmod (IntKind.i64.wrap d2) (8:Int)) + (1:Int)))) (r_mov rfl) (want_t (t:=42) rfl rfl hc43) rfl rfl ?_
     refine o_v (v:=.bool (decide ((d3.length:Int)<(IntKind.i64.wrap ((Int.tmod (IntKind.i64.wrap d2) (8:Int)) + (1:Int)))))) (r_int rfl rfl rfl) (want_t (t:=42) rfl rfl hc43) rfl rfl ?_
     refine o_w (v:=.bool (decide ((d3.length:Int)<(IntKind.i64.wrap ((Int.tmod (IntKind.i64.wrap d2) (8:Int)) + (1:Int)))))) (r_pickF rfl hc43 rfl) ?_
     refine o_w (v:=.bool (decide ((d3.length:Int)<(IntKind.i64.wrap ((Int.tmod (IntKind.i64.wrap d2) (8:Int)) + (1:Int)))))) (r_mov rfl) ?_
     rcases Bool.eq_false_or_eq_true (decide ((d3.length:Int)<(IntKind.i64.wrap ((Int.tmod (IntKind.i64.wrap d2) (8:Int)) + (1:Int))))) with hc44 | hc44
     ·replace h:=h.1 hc44
      iterate 3 refine o_no (want_f (t:=48) rfl rfl hc44) rfl ?_
      refine o_w (v:=.bool true) (r_pickT rfl hc44 rfl) ?_
      refine o_w (v:=.bool true) (r_mov rfl) ?_
      iterate 6 refine o_no (want_f (t:=53) rfl rfl rfl) rfl ?_
      refine o_w (v:=.bool true) (r_pickT rfl rfl rfl) ?_
      refine eo_nil_sq ?_
      refine ec_condT rfl rfl ?_
      refine ec_seq ?_
      refine ec_region ?_
      refine o_w (v:=.bool (worksV)) (r_mov rfl) ?_
      refine o_w (v:=.bool (worksV)) (r_asg rfl) ?_
      refine eo_nil_sq ?_
      refine ec_ret ?_
      refine sq_ret ?_
      subst h
      exact (end1 rfl ⟨_,rfl,E38,rfl⟩)
     ·replace h:=h.2 hc44
      refine o_v (v:=.slice AP3 d3.length cP3) (r_mov rfl) (want_t (t:=48) rfl rfl hc44) rfl rfl ?_
      refine o_v (v:=.int .i64 (d3.length:Int)) (r_len_slc un_s_uint8 rfl) (want_t (t:=48) rfl rfl hc44) rfl rfl ?_
      refine o_v (v:=.bool (decide ((20:Int)<(d3.length:Int)))) (r_int rfl rfl rfl) (want_t (t:=48) rfl rfl hc44) rfl rfl ?_
      refine o_w (v:=.bool (decide ((20:Int)<(d3.length:Int)))) (r_pickF rfl hc44 rfl) ?_
      refine o_w (v:=.bool (decide ((20:Int)<(d3.length:Int)))) (r_mov rfl) ?_
      rcases Bool.eq_false_or_eq_true (decide ((20:Int)<(d3.length:Int))) with hc45 | hc45
      ·replace h:=h.1 hc45
       iterate 6 refine o_no (want_f (t:=53) rfl rfl hc45) rfl ?_
       refine o_w (v:=.bool true) (r_pickT rfl hc45 rfl) ?_
       refine eo_nil_sq ?_
       refine ec_condT rfl rfl ?_
       refine ec_seq ?_
       refine ec_region ?_
       refine o_w (v:=.bool (worksV)) (r_mov rfl) ?_
       refine o_w (v:=.bool (worksV)) (r_asg rfl) ?_
       refine eo_nil_sq ?_
       refine ec_ret ?_
       refine sq_ret ?_
       subst h
       exact (end1 rfl ⟨_,rfl,E38,rfl⟩)
      ·replace h:=h.2 hc45
       refine o_v (v:=.agg (cBuf d0 A1 c2).toArray) (r_lda agg_buffer_Buffer rfl (vs:=(cBuf d0 A1 c2)) rfl ((((((B10.ex F13).ex F17).ex F24).ex F29).ex F36).part (n:=3) rfl)) (want_t (t:=53) rfl rfl hc45) rfl rfl ?_
       refine o_v (v:=.agg (cArena d1 A4 c5 A7 c8).toArray) (r_lda agg_api_Arena rfl (vs:=(cArena d1 A4 c5 A7 c8)) rfl ((S13.fr (((G20.trans (Fr.ext F24)).trans (Fr.ext F29)).trans (Fr.ext F36)) (fun _ h=>h)).now.part (n:=3) rfl)) (want_t (t:=53) rfl rfl hc45) rfl rfl ?_
       refine o_v (v:=.int .i64 (IntKind.i64.wrap ((Int.tmod (IntKind.i64.wrap d2) (8:Int)) + (1:Int)))) (r_mov rfl) (want_t (t:=53) rfl rfl hc45) rfl rfl ?_
       obtain ⟨ha47,h⟩:=h
       obtain ⟨ha48,h⟩:=h
       obtain ⟨x46,hx46,h⟩:=h
       refine o_call cf_buffer_Mend rfl (buffer_Mend_c d0 (kBuf_mk (d:=d0) (H3.up (G31.trans (Fr.ext F36)) (fun _ h=>h) (upc (.inr m11) (fun _ h=>.inl h)))) d1 (kArena_mk (d:=d1) (H6.up (G31.trans (Fr.ext F36)) (fun _ h=>h) (upc (.inr m11) (fun _ h=>.inl h))) (H9.up (G31.trans (Fr.ext F36)) (fun _ h=>h) (upc (.inr m11) (fun _ h=>.inl h)))) (IntKind.i64.wrap ((Int.tmod (IntKind.i64.wrap d2) (8:Int)) + (1:Int))) ((hL.fr E38).cons (((((B10.ex F13).ex F17).ex F24).ex F29).ex F36).lt) (eq_ev hx46 (bufMend_ev d0 d1 (IntKind.i64.wrap ((Int.tmod (IntKind.i64.wrap d2) (8:Int)) + (1:Int))) ha47 ha48))) (want_t (t:=53) rfl rfl hc45) rfl ?_
       rintro _ w46 ⟨F46,cs49,rfl,H50⟩
       have E51:=E38.trans F46
       have G53:=(((G20.trans (Fr.ext F24)).trans (Fr.ext F29)).trans (Fr.ext F36)).trans (Fr.ext F46)
       obtain ⟨A55,c56,rfl,H57⟩:=kBuf_open H50
       refine o_v (v:=.int .i64 x46.first) (r_fld fldv_buffer_Buffer_1 one_int rfl rfl) (want_t (t:=53) rfl rfl hc45) rfl rfl ?_
       refine o_v (v:=.bool (decide ((2147483000:Int)<x46.first))) (r_int rfl rfl rfl) (want_t (t:=53) rfl rfl hc45) rfl rfl ?_
       refine o_w (v:=.bool (decide ((2147483000:Int)<x46.first))) (r_pickF rfl hc45 rfl) ?_
       refine eo_nil_sq ?_
       refine ec_cond rfl (fun hc58=>?_) (fun hc58=>?_)
       ·replace h:=h.1 hc58
        refine ec_seq ?_
        refine ec_region ?_
        refine o_w (v:=.bool (worksV)) (r_mov rfl) ?_
        refine o_w (v:=.bool (worksV)) (r_asg rfl) ?_
        refine eo_nil_sq ?_
        refine ec_ret ?_
        refine sq_ret ?_
        subst h
        exact (end1 rfl ⟨_,rfl,E51,rfl⟩)
       ·replace h:=h.2 hc58
        refine ec_skip ?_
        refine sq_n ?_
        refine ec_seq ?_
        refine ec_region ?_
        refine o_w (v:=.slice none ([]:List Nm).length 0) (r_asg rfl) ?_
        refine eo_nil_sq ?_
        iterate 2 refine ec_seq ?_
        refine ec_region ?_
        refine o_w (v:=.int .i64 (0:Int)) (r_asg rfl) ?_
        refine eo_nil_sq ?_
        refine ec_block ?_
        have lo60:w.heap.size≤w46.heap.size:=E51.size
        have O60:=OwnS.nil (k:=kNm) (e:=62) (by decide) ((hL.fr E51).cons ((((((B10.ex F13).ex F17).ex F24).ex F29).ex F36).ex F46).lt)
        obtain ⟨x59,hl59,h⟩:=h
        refine ec_loopE 0 (I:=(fun (s59:List Nm × Int × Int × Int × List Nm) ρ ds w'=>∃ (ρ':Env) (v59i1:Value) (A59i5:Option Addr) (c59i5:Nat),ρ=envs ρ' [(12,v59i1),(13,.int .i64 s59.2.1),(3,.slice AP3 d3.length cP3),(4,.pointer (some ⟨b10,0,none⟩)),(5,.pointer (some ⟨b13,0,none⟩)),(9,.bool (worksV)),(11,.int .i64 (IntKind.i64.wrap ((Int.tmod (IntKind.i64.wrap d2) (8:Int)) + (1:Int))))]∧ds=[]∧Fr (own (.slice none 0 0)++(b10::L)) w46 w'∧Ext w w'∧OwnS kNm (w46.heap.size) 62 (b10::L) w' v59i1 s59.1∧(∀ q∈own v59i1,q∈(own (.slice none 0 0)++(b10::L))∨w46.heap.size≤q)∧Stb (own v59i1++(b10::L)) w' (fun w=>SlC kNm w A59i5 c59i5 s59.2.2.2.2)∧Blk w' b10 24 [.int .i64 s59.2.2.1,.int .i64 s59.2.2.2.1,.slice A59i5 s59.2.2.2.2.length c59i5])) ?_ hl59 ?_ ?_
        ·intro s59 z59 ρ59 ds59 w59r hI59 hb59
         obtain ⟨ρ59r,v59r1,A59r5,c59r5,rfl,rfl,F59r,E59r,O59r1,N59r1,H59r5,B59rb10⟩:=hI59
         have h:=hb59
         unfold law16_BufferYoungest_b59 at h
         have G61:Fr L w w59r:=((G31.trans (Fr.ext F36)).trans (Fr.ext F46)).stp F59r (upo (fun m hm=>by cases hm) (upc (.inr m11) (fun _ h=>.inl h)))
         have G62:Fr (b10::L) w13 w59r:=G53.stp F59r (upo (fun m hm=>by cases hm) (upc (.inl (List.Mem.head _)) (fun m hm=>Or.inl (List.Mem.tail _ hm))))
         have P64:∀ m∈own v59r1,m∈L∨w.heap.size≤m:=fun m hm=>(N59r1 m hm).elim (fun h=>(show ∀ m∈(own (.slice none 0 0)++(b10::L)),m∈L∨w.heap.size≤m from (upo (fun m hm=>by cases hm) (upc (.inr m11) (fun _ h=>.inl h)))) m h) (fun h=>.inr (Nat.le_trans (((G31.trans (Fr.ext F36)).trans (Fr.ext F46)).size) h))
         iterate 2 refine ec_seq ?_
         refine ec_region ?_
         refine o_w (v:=.int .i64 s59.2.1) (r_mov rfl) ?_
         refine o_w (v:=.slice AP3 d3.length cP3) (r_mov rfl) ?_
         refine o_w (v:=.int .i64 (d3.length:Int)) (r_len_slc un_s_uint8 rfl) ?_
         refine o_w (v:=.bool (decide (s59.2.1<(d3.length:Int)))) (r_int rfl rfl rfl) ?_
         refine eo_nil_sq ?_
         refine ec_cond rfl (fun hc67=>?_) (fun hc67=>?_)
         ·replace h:=h.1 hc67
          refine ec_skip ?_
          refine sq_n ?_
          refine ec_seq ?_
          refine ec_block ?_
          refine ec_seq ?_
          obtain ⟨ha85,h⟩:=h
          obtain ⟨cs86,l88,H87⟩:=Stb.elem (by decide) (HP3.up G61 (fun _ h=>h) (upo P64 (upc (.inr m11) (fun _ h=>.inl h)))) s59.2.1 ha85.1 ha85.2
          obtain ⟨rfl,H87'⟩:=kI_open2 H87
          obtain ⟨ha89,h⟩:=h
          obtain ⟨ha90,h⟩:=h
          obtain ⟨cs91,l93,H92⟩:=Stb.elem (by decide) (H6.up G61 (fun _ h=>h) (upo P64 (upc (.inr m11) (fun _ h=>.inl h)))) (Int.tmod (IntKind.i64.wrap (nth d3 s59.2.1)) (d1.slots.length:Int)) ha90.1 ha90.2
          obtain ⟨A95,c96,A98,c99,rfl,H94,H97,H100⟩:=kEnt_open2 H92
          refine ec_anyGN (by kernel_rfl) [[],[0],[],[],[2,3],[2,3,4],[2,3,4,5],[],[7],[7,8],[2,3,4,5,6,7,8,9],[0,1,2,3,4,5,6,7,8,9,10],[0,1,2,3,4,5,6,7,8,9,10,11],[],[0,1,2,3,4,5,6,7,8,9,10,11,12,13]] [14,68,69,70,71,72,73,74,75,76,77,78,79,80] [] [14] 13 0 (fun g w=>∀ b,g=gOf b→Blk w b 33 [str ([]:Str),.int .i64 (0:Int),.int .i64 (0:Int),.int .i64 (0:Int),.bool false,str ([]:Str),.slice none ([]:List Int).length 0,.slice none ([]:List Int).length 0,.int .u64 (0:Int)]) (fun g84=>[own g84]) [[14]] (fun g84=>[fun w'=>(∀ b,g84=gOf b→Blk w' b 33 [str ([]:Str),.int .i64 (0:Int),.int .i64 (0:Int),.int .i64 (0:Int),.bool false,str ([]:Str),.slice none ([]:List Int).length 0,.slice none ([]:List Int).length 0,.int .u64 (0:Int)]),fun w'=>(∀ b,g84=gOf b→Blk w' b 33 (cEnt (nth d1.slots (Int.tmod (IntKind.i64.wrap (nth d3 s59.2.1)) (d1.slots.length:Int))) A95 c96 A98 c99))]) (fun g84=>[fun v _=>v=(.pointer (some ⟨b13,1,none⟩):Value),fun v _=>v=(.slice A4 d1.slots.length c5:Value),fun v _=>v=(.slice AP3 d3.length cP3:Value),fun v _=>v=(.int .i64 s59.2.1:Value),fun v _=>v=(.pointer (some (elemA AP3 (kI .u8).n s59.2.1.toNat)):Value),fun v _=>v=(.int .u8 (nth d3 s59.2.1):Value),fun v _=>v=(.int .i64 (IntKind.i64.wrap (nth d3 s59.2.1)):Value),fun v _=>v=(.pointer (some ⟨b13,1,none⟩):Value),fun v _=>v=(.slice A4 d1.slots.length c5:Value),fun v _=>v=(.int .i64 (d1.slots.length:Int):Value),fun v _=>v=(.int .i64 (Int.tmod (IntKind.i64.wrap (nth d3 s59.2.1)) (d1.slots.length:Int)):Value),fun v _=>v=(.pointer (some (elemA A4 kEnt.n (Int.tmod (IntKind.i64.wrap (nth d3 s59.2.1)) (d1.slots.length:Int)).toNat)):Value),fun v _=>v=(.agg (cEnt (nth d1.slots (Int.tmod (IntKind.i64.wrap (nth d3 s59.2.1)) (d1.slots.length:Int))) A95 c96 A98 c99).toArray:Value),fun v w'=>∃ b84_13,v=(.pointer (some ⟨b84_13,0,none⟩):Value)∧g84=gOf b84_13∧w59r.heap.size≤b84_13,fun _ _=>True]) (by kernel_rfl) (fun _=>rfl) (fun _=>rfl) (fun g84=>(allM1 (φ:=fun M=>∀ m∈M,m∈[]∨m∈own g84) (fun m hm=>.inr hm) (fun _ h=>by cases h))) (fun g84=>⟨fun _ _ _ _ _ h=>h,fun _ _ _ _ _ h=>h,fun _ _ _ _ _ h=>h,fun _ _ _ _ _ h=>h,fun _ _ _ _ _ h=>h,fun _ _ _ _ _ h=>h,fun _ _ _ _ _ h=>h,fun _ _ _ _ _ h=>h,fun _ _ _ _ _ h=>h,fun _ _ _ _ _ h=>h,fun _ _ _ _ _ h=>h,fun _ _ _ _ _ h=>h,fun _ _ _ _ _ h=>h,fun _ v w' w'' F h=>by obtain ⟨b84_13,hv,heb84_13,lob84_13⟩:=h; exact ⟨b84_13,hv,heb84_13,lob84_13⟩,fun _ _ _ _ _ h=>h,trivial⟩) (fun g84=>⟨⟨fun _ _ _ _ _ _ h=>h,fun _ _ _ _ _ _ h=>h,fun _ _ _ _ _ _ h=>h,fun _ _ _ _ _ _ h=>h,fun _ _ _ _ _ _ h=>h,fun _ _ _ _ _ _ h=>h,fun _ _ _ _ _ _ h=>h,fun _ _ _ _ _ _ h=>h,fun _ _ _ _ _ _ h=>h,fun _ _ _ _ _ _ h=>h,fun _ _ _ _ _ _ h=>h,fun _ _ _ _ _ _ h=>h,fun _ _ _ _ _ _ h=>h,fun _ v w' w'' hg84 F h=>by obtain ⟨b84_13,hv,heb84_13,lob84_13⟩:=h; exact ⟨b84_13,hv,heb84_13,lob84_13⟩,(fun h=>absurd h (by decide)),trivial⟩,trivial⟩) (fun g w hw hg=>⟨fun _ _ _ _ h=>h,fun _ _ _ _ h=>h,fun _ _ _ _ h=>h,fun _ _ _ _ h=>h,fun _ _ _ _ h=>h,fun _ _ _ _ h=>h,fun _ _ _ _ h=>h,fun _ _ _ _ h=>h,fun _ _ _ _ h=>h,fun _ _ _ _ h=>h,fun _ _ _ _ h=>h,fun _ _ _ _ h=>h,fun _ _ _ _ h=>h,(fun h=>absurd h (by decide)),fun _ _ _ _ h=>h,trivial⟩) (fun g84=>⟨fun w' w'' F h=>by have hG84:=h; exact (fun b e=>(hG84 b e).ex F),fun w' w'' F h=>by have hG84:=h; exact (fun b e=>(hG84 b e).ex F),trivial⟩) (fun b e=>absurd e gNil_ne) (fun k hk g w w' hw hg F hX hI=>match k,hk,hI with | 0,_,hI=>by have hG84:=hI; exact hX | k + 1,hk,_=>absurd hk (by omega)) ?_ ?_ ?_ ?_
          ·refine ⟨?_,?_,?_,?_,?_,?_,?_,?_,?_,?_,?_,?_,?_,?_,?_,trivial⟩
           ·intro _ _ g84 ρ w84o hg84 F84o hX hS hρ
            have F84o:=hX 14 rfl rfl
            have q5:ρ 5=.pointer (some ⟨b13,0,none⟩):=hρ 5 (by kernel_rfl)
            exact o_q (r_fa fld_api_Arena_1 rfl q5) ⟨Fr.refl _ _,rfl⟩
           ·intro _ _ g84 ρ w84o hg84 F84o hX hS hρ
            have F84o:=hX 14 rfl rfl
            have q68:ρ 68=.pointer (some ⟨b13,1,none⟩):=hS 0 (by decide) 68 rfl
            exact o_q (r_ld one_s_api_Entry q68 ((S13.fr (G62.trans (Fr.ext F84o)) (fun _ h=>h)).now.cell rfl)) ⟨Fr.refl _ _,rfl⟩
           ·intro _ _ g84 ρ w84o hg84 F84o hX hS hρ
            have F84o:=hX 14 rfl rfl
            have q3:ρ 3=.slice AP3 d3.length cP3:=hρ 3 (by kernel_rfl)
            exact o_q (r_mov q3) ⟨Fr.refl _ _,rfl⟩
           ·intro _ _ g84 ρ w84o hg84 F84o hX hS hρ
            have F84o:=hX 14 rfl rfl
            have q13:ρ 13=.int .i64 s59.2.1:=hρ 13 (by kernel_rfl)
            exact o_q (r_mov q13) ⟨Fr.refl _ _,rfl⟩
           ·intro _ _ g84 ρ w84o hg84 F84o hX hS hρ
            have F84o:=hX 14 rfl rfl
            have q70:ρ 70=.slice AP3 d3.length cP3:=hS 2 (by decide) 70 rfl
            have q71:ρ 71=.int .i64 s59.2.1:=hS 3 (by decide) 71 rfl
            exact o_q (r_ia slc_s_uint8 q70 q71 ((HP3.fr (G61.trans (Fr.ext F84o)) (fun _ h=>h)).now.2 _ (lt_toNat ha85.1 ha85.2)).1 ha85.1 ha85.2) ⟨Fr.refl _ _,rfl⟩
           ·intro _ _ g84 ρ w84o hg84 F84o hX hS hρ
            have F84o:=hX 14 rfl rfl
            have G121:Fr (own v59r1++(b10::L)) w59r w84o:=Fr.ext F84o
            have q72:ρ 72=.pointer (some (elemA AP3 (kI .u8).n s59.2.1.toNat)):=hS 4 (by decide) 72 rfl
            exact o_q (r_ld' one_uint8 q72 (elemA_spot _ _ _) ((H87'.fr G121 (fun _ h=>h)).now.1.at0 (elemA_spot _ _ _))) ⟨Fr.refl _ _,rfl⟩
           ·intro _ _ g84 ρ w84o hg84 F84o hX hS hρ
            have F84o:=hX 14 rfl rfl
            have q73:ρ 73=.int .u8 (nth d3 s59.2.1):=hS 5 (by decide) 73 rfl
            exact o_q (r_conv un_uint8 un_int q73) ⟨Fr.refl _ _,rfl⟩
           ·intro _ _ g84 ρ w84o hg84 F84o hX hS hρ
            have F84o:=hX 14 rfl rfl
            have q5:ρ 5=.pointer (some ⟨b13,0,none⟩):=hρ 5 (by kernel_rfl)
            exact o_q (r_fa fld_api_Arena_1 rfl q5) ⟨Fr.refl _ _,rfl⟩
           ·intro _ _ g84 ρ w84o hg84 F84o hX hS hρ
            have F84o:=hX 14 rfl rfl
            have q75:ρ 75=.pointer (some ⟨b13,1,none⟩):=hS 7 (by decide) 75 rfl
            exact o_q (r_ld one_s_api_Entry q75 ((S13.fr (G62.trans (Fr.ext F84o)) (fun _ h=>h)).now.cell rfl)) ⟨Fr.refl _ _,rfl⟩
           ·intro _ _ g84 ρ w84o hg84 F84o hX hS hρ
            have F84o:=hX 14 rfl rfl
            have q76:ρ 76=.slice A4 d1.slots.length c5:=hS 8 (by decide) 76 rfl
            exact o_q (r_len_slc un_s_api_Entry q76) ⟨Fr.refl _ _,rfl⟩
           ·intro _ _ g84 ρ w84o hg84 F84o hX hS hρ
            have F84o:=hX 14 rfl rfl
            have q74:ρ 74=.int .i64 (IntKind.i64.wrap (nth d3 s59.2.1)):=hS 6 (by decide) 74 rfl
            have q77:ρ 77=.int .i64 (d1.slots.length:Int):=hS 9 (by decide) 77 rfl
            exact o_q (r_rem q74 q77 ha89) ⟨Fr.refl _ _,rfl⟩
           ·intro _ _ g84 ρ w84o hg84 F84o hX hS hρ
            have F84o:=hX 14 rfl rfl
            have q69:ρ 69=.slice A4 d1.slots.length c5:=hS 1 (by decide) 69 rfl
            have q78:ρ 78=.int .i64 (Int.tmod (IntKind.i64.wrap (nth d3 s59.2.1)) (d1.slots.length:Int)):=hS 10 (by decide) 78 rfl
            exact o_q (r_ia slc_s_api_Entry q69 q78 ((H6.fr (G61.trans (Fr.ext F84o)) (fun _ h=>h)).now.2 _ (lt_toNat ha90.1 ha90.2)).1 ha90.1 ha90.2) ⟨Fr.refl _ _,rfl⟩
           ·intro _ _ g84 ρ w84o hg84 F84o hX hS hρ
            have F84o:=hX 14 rfl rfl
            have G145:Fr (own v59r1++(b10::L)) w59r w84o:=Fr.ext F84o
            have q79:ρ 79=.pointer (some (elemA A4 kEnt.n (Int.tmod (IntKind.i64.wrap (nth d3 s59.2.1)) (d1.slots.length:Int)).toNat)):=hS 11 (by decide) 79 rfl
            exact o_q (r_lda' agg_api_Entry q79 (elemA_spot _ _ _) (vs:=(cEnt (nth d1.slots (Int.tmod (IntKind.i64.wrap (nth d3 s59.2.1)) (d1.slots.length:Int))) A95 c96 A98 c99)) rfl ((H94.fr G145 (fun _ h=>h)).now.1)) ⟨Fr.refl _ _,rfl⟩
           ·intro _ hT; exact absurd hT (by decide)
           ·intro hT; exact absurd hT (by decide)
          ·intro o ho ρ w84o F84o hX hS hρ; cases Option.some.inj ho; refine o_alloc zero_api_Entry rfl rfl rfl ?_; intro b w' e F B; subst e
           exact eo_nil ⟨rfl,rfl,_,rfl,F,gOf _,(fun m hm=>by rw [own_gOf,List.mem_singleton] at hm; subst hm; exact ⟨Nat.le_refl _,B.lt⟩),(fun b e=>by obtain rfl:=gOf_inj e; exact B),_,rfl,rfl,F84o.size⟩
          ·refine ⟨⟨_,rfl,?_⟩,trivial⟩
           ·intro g84 ρ w84o hg84 F84o hX hI hS hρ
            have hG84:=hI
            obtain ⟨b84_13,q14,heb84_13,lob84_13⟩:=hS 13 (by decide) 14 rfl
            have q80:ρ 80=.agg (cEnt (nth d1.slots (Int.tmod (IntKind.i64.wrap (nth d3 s59.2.1)) (d1.slots.length:Int))) A95 c96 A98 c99).toArray:=hS 12 (by decide) 80 rfl
            subst heb84_13
            have hB84_b84_13:=hG84 _ rfl
            refine o_store (show ev ρ _=_ from q14) hB84_b84_13 (vs:=[str ((nth d1.slots (Int.tmod (IntKind.i64.wrap (nth d3 s59.2.1)) (d1.slots.length:Int))).key),.int .i64 (((nth d1.slots (Int.tmod (IntKind.i64.wrap (nth d3 s59.2.1)) (d1.slots.length:Int))).val).kind),.int .i64 (((nth d1.slots (Int.tmod (IntKind.i64.wrap (nth d3 s59.2.1)) (d1.slots.length:Int))).val).time),.int .i64 (((nth d1.slots (Int.tmod (IntKind.i64.wrap (nth d3 s59.2.1)) (d1.slots.length:Int))).val).node),.bool (((nth d1.slots (Int.tmod (IntKind.i64.wrap (nth d3 s59.2.1)) (d1.slots.length:Int))).val).dead),str (((nth d1.slots (Int.tmod (IntKind.i64.wrap (nth d3 s59.2.1)) (d1.slots.length:Int))).val).text),.slice A95 (((nth d1.slots (Int.tmod (IntKind.i64.wrap (nth d3 s59.2.1)) (d1.slots.length:Int))).val).plus).length c96,.slice A98 (((nth d1.slots (Int.tmod (IntKind.i64.wrap (nth d3 s59.2.1)) (d1.slots.length:Int))).val).minus).length c99,.int .u64 (((nth d1.slots (Int.tmod (IntKind.i64.wrap (nth d3 s59.2.1)) (d1.slots.length:Int))).val).flags)]) (congrArg Value.cells q80) sz_api_Entry rfl rfl rfl ?_
            intro w' F B2
            exact eo_nil ⟨rfl,rfl,undef,rfl,F,(fun b e=>by obtain rfl:=gOf_inj e; exact B2),trivial⟩
          ·intro g84 ρ w84 hg84 F84 hI hS hρ
           have hG84:=hI
           obtain ⟨b84_13,q14,heb84_13,lob84_13⟩:=hS 13 14 rfl
           subst heb84_13
           have hB84_b84_13:=hG84 _ rfl
           obtain ⟨ρ',rfl⟩:∃ ρ',ρ=envs (ovr [14,68,69,70,71,72,73,74,75,76,77,78,79,80] ρ' _) [(14,.pointer (some ⟨b84_13,0,none⟩))]:=⟨ρ,ovr_self hρ ⟨q14,trivial⟩⟩
           have n84_13:w.heap.size≤b84_13:=Nat.le_trans E59r.size lob84_13
           have q157:b10<b84_13:=Nat.lt_of_lt_of_le B59rb10.lt lob84_13
           have m158:w.heap.size≤b84_13:=Nat.le_trans G61.size lob84_13
           have m161:w59r.heap.size≤b84_13:=lob84_13
           have Ob163:=O59r1.born F84 lob84_13 hB84_b84_13.lt
           have E164:=E59r.trans F84
           have G168:Fr (own v59r1++(b10::L)) w59r w84:=Fr.ext F84
           refine sq_n ?_
           refine ec_seq ?_
           refine ec_region ?_
           refine o_w (v:=.agg #[.int .i64 s59.2.2.1,.int .i64 s59.2.2.2.1,.slice A59r5 s59.2.2.2.2.length c59r5]) (r_lda agg_buffer_Buffer rfl (vs:=[.int .i64 s59.2.2.1,.int .i64 s59.2.2.2.1,.slice A59r5 s59.2.2.2.2.length c59r5]) rfl ((B59rb10.ex F84).part (n:=3) rfl)) ?_
           refine o_w (v:=.agg (cArena d1 A4 c5 A7 c8).toArray) (r_lda agg_api_Arena rfl (vs:=(cArena d1 A4 c5 A7 c8)) rfl ((S13.fr (G62.trans (Fr.ext F84)) (fun _ h=>h)).now.part (n:=3) rfl)) ?_
           refine o_w (v:=.int .i64 (IntKind.i64.wrap ((Int.tmod (IntKind.i64.wrap d2) (8:Int)) + (1:Int)))) (r_mov rfl) ?_
           refine o_w (v:=.agg (cEnt (nth d1.slots (Int.tmod (IntKind.i64.wrap (nth d3 s59.2.1)) (d1.slots.length:Int))) A95 c96 A98 c99).toArray) (r_lda agg_api_Entry rfl (vs:=(cEnt (nth d1.slots (Int.tmod (IntKind.i64.wrap (nth d3 s59.2.1)) (d1.slots.length:Int))) A95 c96 A98 c99)) rfl (hB84_b84_13.part (n:=9) rfl)) ?_
           obtain ⟨ha173,h⟩:=h
           obtain ⟨ha174,h⟩:=h
           obtain ⟨x172,hx172,h⟩:=h
           refine o_call cf_buffer_Note rfl (buffer_Note_c (⟨s59.2.2.1,s59.2.2.2.1,s59.2.2.2.2⟩:Buf) (kBuf_mk (d:=(⟨s59.2.2.1,s59.2.2.2.1,s59.2.2.2.2⟩:Buf)) (H59r5.up G168 (fun _ h=>h) (upc (.inr m161) (upo (fun m hm=>Or.inl (List.mem_append_left _ hm)) (upc (.inl (List.mem_append_right _ (List.Mem.head _))) (fun m hm=>Or.inl (List.mem_append_right _ (List.Mem.tail _ hm)))))))) d1 (kArena_mk (d:=d1) (H6.up (G61.trans (Fr.ext F84)) (fun _ h=>h) (upc (.inr m158) (upo P64 (upc (.inr m11) (fun _ h=>.inl h))))) (H9.up (G61.trans (Fr.ext F84)) (fun _ h=>h) (upc (.inr m158) (upo P64 (upc (.inr m11) (fun _ h=>.inl h)))))) (IntKind.i64.wrap ((Int.tmod (IntKind.i64.wrap d2) (8:Int)) + (1:Int))) (nth d1.slots (Int.tmod (IntKind.i64.wrap (nth d3 s59.2.1)) (d1.slots.length:Int))) (kEnt_mk (d:=(nth d1.slots (Int.tmod (IntKind.i64.wrap (nth d3 s59.2.1)) (d1.slots.length:Int)))) (H97.up G168 (fun _ h=>h) (upc (.inr m161) (upo (fun m hm=>Or.inl (List.mem_append_left _ hm)) (upc (.inl (List.mem_append_right _ (List.Mem.head _))) (fun m hm=>Or.inl (List.mem_append_right _ (List.Mem.tail _ hm))))))) (H100.up G168 (fun _ h=>h) (upc (.inr m161) (upo (fun m hm=>Or.inl (List.mem_append_left _ hm)) (upc (.inl (List.mem_append_right _ (List.Mem.head _))) (fun m hm=>Or.inl (List.mem_append_right _ (List.Mem.tail _ hm)))))))) ((((hL.fr E164).cons (B59rb10.ex F84).lt).own Ob163).cons hB84_b84_13.lt) (eq_ev hx172 (bufNote_ev (⟨s59.2.2.1,s59.2.2.2.1,s59.2.2.2.2⟩:Buf) d1 (IntKind.i64.wrap ((Int.tmod (IntKind.i64.wrap d2) (8:Int)) + (1:Int))) (nth d1.slots (Int.tmod (IntKind.i64.wrap (nth d3 s59.2.1)) (d1.slots.length:Int))) ha173 ha174))) rfl rfl ?_
           rintro _ w172 ⟨F172,cs175,rfl,H176⟩
           have E177:=E164.trans F172
           obtain ⟨A186,c187,rfl,H188⟩:=kBuf_open H176
           refine o_store rfl ((B59rb10.ex F84).ex F172) (vs:=(cBuf x172 A186 c187)) rfl sz_buffer_Buffer rfl rfl rfl ?_
           intro w189 F189 B189
           have E190:=Ext.st E177 F189 (by simp; omega)
           have G195:Fr (own (.slice none 0 0)++(b10::L)) w46 w189:=((F59r.trans (Fr.ext F84)).trans (Fr.ext F172)).stp F189 (upc (.inl (List.mem_append_right _ (List.Mem.head _))) (fun m hm=>by cases hm))
           have G196:Fr (b84_13::(own v59r1++(b10::L))) w172 w189:=(Fr.refl _ _).stp F189 (upc (.inl (List.Mem.tail _ (List.mem_append_right _ (List.Mem.head _)))) (fun m hm=>by cases hm))
           have B197:=(hB84_b84_13.ex F172).fr F189 (by simp; omega)
           have O198:=(Ob163.ex F172).fr F189 (by simp)
           have B189':Blk w189 b10 _ (cBuf x172 A186 c187):=B189
           refine eo_nil_sq ?_
           refine ec_region ?_
           refine o_w (v:=v59r1) (r_mov rfl) ?_
           refine o_w (v:=.pointer (some ⟨b84_13,1,none⟩)) (r_fa fld_api_Entry_1 rfl rfl) ?_
           refine o_w (v:=.pointer (some ⟨b84_13,1,none⟩)) (r_fa fld_api_Value_0 rfl rfl) ?_
           refine o_w (v:=.int .i64 (((nth d1.slots (Int.tmod (IntKind.i64.wrap (nth d3 s59.2.1)) (d1.slots.length:Int))).val).kind)) (r_ld one_int rfl (B197.cell rfl)) ?_
           refine o_w (v:=.pointer (some ⟨b84_13,0,none⟩)) (r_fa fld_api_Entry_0 rfl rfl) ?_
           refine o_w (v:=str ((nth d1.slots (Int.tmod (IntKind.i64.wrap (nth d3 s59.2.1)) (d1.slots.length:Int))).key)) (r_ld one_string rfl (B197.cell rfl)) ?_
           refine o_w (v:=.agg #[.int .i64 (((nth d1.slots (Int.tmod (IntKind.i64.wrap (nth d3 s59.2.1)) (d1.slots.length:Int))).val).kind),str ((nth d1.slots (Int.tmod (IntKind.i64.wrap (nth d3 s59.2.1)) (d1.slots.length:Int))).key)]) (r_build bld_buffer_Name (vs:=[(0,.int .i64 (((nth d1.slots (Int.tmod (IntKind.i64.wrap (nth d3 s59.2.1)) (d1.slots.length:Int))).val).kind)),(1,str ((nth d1.slots (Int.tmod (IntKind.i64.wrap (nth d3 s59.2.1)) (d1.slots.length:Int))).key))]) (cells:=[.int .i64 (((nth d1.slots (Int.tmod (IntKind.i64.wrap (nth d3 s59.2.1)) (d1.slots.length:Int))).val).kind),str ((nth d1.slots (Int.tmod (IntKind.i64.wrap (nth d3 s59.2.1)) (d1.slots.length:Int))).key)]) rfl rfl) ?_
           refine o_bslice slc_s_buffer_Name rfl (vs:=[.agg #[.int .i64 (((nth d1.slots (Int.tmod (IntKind.i64.wrap (nth d3 s59.2.1)) (d1.slots.length:Int))).val).kind),str ((nth d1.slots (Int.tmod (IntKind.i64.wrap (nth d3 s59.2.1)) (d1.slots.length:Int))).key)]]) rfl rfl rfl (cs:=[.int .i64 (((nth d1.slots (Int.tmod (IntKind.i64.wrap (nth d3 s59.2.1)) (d1.slots.length:Int))).val).kind),str ((nth d1.slots (Int.tmod (IntKind.i64.wrap (nth d3 s59.2.1)) (d1.slots.length:Int))).key)]) rfl rfl rfl rfl ?_
           intro b199 w199 e199 F199 B199
           have N199:=nin ((((hL.fr E190).cons B189'.lt).own O198).cons B197.lt) e199
           have S199:=B199.stb N199
           have E200:=E190.trans F199
           obtain ⟨ha211,h⟩:=h
           refine o_app slc_s_buffer_Name rfl rfl rfl (O198.ex F199) rfl S199.now (ys:=([(⟨((nth d1.slots (Int.tmod (IntKind.i64.wrap (nth d3 s59.2.1)) (d1.slots.length:Int))).val).kind,(nth d1.slots (Int.tmod (IntKind.i64.wrap (nth d3 s59.2.1)) (d1.slots.length:Int))).key⟩:Nm)]:List Nm)) rfl rfl rfl (rowd1 (cs:=[.int .i64 (((nth d1.slots (Int.tmod (IntKind.i64.wrap (nth d3 s59.2.1)) (d1.slots.length:Int))).val).kind),str ((nth d1.slots (Int.tmod (IntKind.i64.wrap (nth d3 s59.2.1)) (d1.slots.length:Int))).key)]) (kNm_mk (d:=(⟨((nth d1.slots (Int.tmod (IntKind.i64.wrap (nth d3 s59.2.1)) (d1.slots.length:Int))).val).kind,(nth d1.slots (Int.tmod (IntKind.i64.wrap (nth d3 s59.2.1)) (d1.slots.length:Int))).key⟩:Nm))) rfl) ha211 rfl rfl ?_
           intro v210 w210 F210 O210 N210
           have P216:∀ m∈own v210,m∈(own (.slice none 0 0)++(b10::L))∨w46.heap.size≤m:=fun m hm=>(N210 m hm).elim (fun h=>(show ∀ m∈own v59r1,m∈(own (.slice none 0 0)++(b10::L))∨w46.heap.size≤m from N59r1) m h) (fun h=>.inr (Nat.le_trans ((G195.trans (Fr.ext F199)).size) h))
           have P217:∀ m∈own v210,m∈(b84_13::(own v59r1++(b10::L)))∨w172.heap.size≤m:=fun m hm=>(N210 m hm).elim (fun h=>(show ∀ m∈own v59r1,m∈(b84_13::(own v59r1++(b10::L)))∨w172.heap.size≤m from (fun m hm=>.inl (List.Mem.tail _ (List.mem_append_left _ hm)))) m h) (fun h=>.inr (Nat.le_trans ((G196.trans (Fr.ext F199)).size) h))
           have E219:=Ext.st E200 F210 (fun m hm=>Nat.le_trans lo60 ((O198.ex F199).lo m hm))
           have G224:Fr (own (.slice none 0 0)++(b10::L)) w46 w210:=(G195.trans (Fr.ext F199)).stp F210 N59r1
           have G225:Fr (b84_13::(own v59r1++(b10::L))) w172 w210:=(G196.trans (Fr.ext F199)).stp F210 (fun m hm=>.inl (List.Mem.tail _ (List.mem_append_left _ hm)))
           have B227:=(B189'.ex F199).fr F210 (fun hm=>((O198.ex F199).below b10 (by simp)).2 hm)
           refine o_w (v:=v210) (r_asg rfl) ?_
           refine eo_nil ?_
           refine blk_n ?_
           refine sq_n ?_
           refine ec_region ?_
           refine o_w (v:=.int .i64 s59.2.1) (r_mov rfl) ?_
           refine o_w (v:=.int .i64 (IntKind.i64.wrap (s59.2.1 + (1:Int)))) (r_int rfl rfl rfl) ?_
           refine o_w (v:=.int .i64 (IntKind.i64.wrap (s59.2.1 + (1:Int)))) (r_asg rfl) ?_
           refine eo_nil ?_
           subst h
           exact lq_n ⟨_,v210,A186,c187,envs_self ⟨rfl,rfl,rfl,rfl,rfl,rfl,rfl,trivial⟩,rfl,G224,E219,(O210.weak (fun m hm=>by simp at hm ⊢; first | exact hm | exact .inr hm | simp [hm] | (rcases hm with h | h <;> simp [h]) | simp_all)),P216,(H188.up G225 (fun _ h=>h) (upo P217 (upc (.inl (List.Mem.tail _ (List.mem_append_right _ (List.Mem.head _)))) (fun m hm=>Or.inl (List.Mem.tail _ (List.mem_append_right _ (List.Mem.tail _ hm))))))),B227⟩
         ·replace h:=h.2 hc67
          refine ec_exit ?_
          refine sq_exit ?_
          subst h
          exact lq_x ⟨_,v59r1,A59r5,c59r5,envs_self ⟨rfl,rfl,rfl,rfl,rfl,rfl,rfl,trivial⟩,rfl,F59r,E59r,O59r1,N59r1,H59r5,B59rb10⟩
        ·exact ⟨_,(.slice none 0 0),A1,c2,envs_self ⟨rfl,rfl,rfl,rfl,rfl,rfl,rfl,trivial⟩,rfl,(Fr.refl _ _),E51,O60,(fun q hq=>.inl (by first | exact List.mem_append_left _ hq | simp [hq])),(H3.up ((G31.trans (Fr.ext F36)).trans (Fr.ext F46)) (fun _ h=>h) (upo (fun m hm=>by cases hm) (upc (.inr m11) (fun _ h=>.inl h)))),((((((B10.ex F13).ex F17).ex F24).ex F29).ex F36).ex F46)⟩
        ·rintro ρ59e ds59e w59e ⟨ρ59e,v59e1,A59e5,c59e5,rfl,rfl,F59e,E59e,O59e1,N59e1,H59e5,B59eb10⟩
         refine blk_hit ?_
         refine sq_n ?_
         iterate 2 refine ec_seq ?_
         refine ec_region ?_
         refine o_w (v:=.pointer (some ⟨b10,2,none⟩)) (r_fa fld_buffer_Buffer_2 rfl rfl) ?_
         refine o_w (v:=.slice A59e5 x59.2.2.2.2.length c59e5) (r_ld one_s_buffer_Name rfl (B59eb10.cell rfl)) ?_
         refine o_w (v:=.int .i64 (x59.2.2.2.2.length:Int)) (r_len_slc un_s_buffer_Name rfl) ?_
         refine o_w (v:=.int .i64 (IntKind.i64.wrap ((Int.tmod (IntKind.i64.wrap d2) (8:Int)) + (1:Int)))) (r_mov rfl) ?_
         refine o_w (v:=.bool ((x59.2.2.2.2.length:Int) != (IntKind.i64.wrap ((Int.tmod (IntKind.i64.wrap d2) (8:Int)) + (1:Int))))) (r_int rfl rfl rfl) ?_
         refine eo_nil_sq ?_
         refine ec_cond rfl (fun hc235=>?_) (fun hc235=>?_)
         ·replace h:=h.1 hc235
          refine ec_seq ?_
          refine ec_region ?_
          refine o_w (v:=.bool false) (r_asg rfl) ?_
          refine eo_nil_sq ?_
          refine ec_ret ?_
          refine sq_ret ?_
          subst h
          exact (end1 rfl ⟨_,rfl,E59e,rfl⟩)
         ·replace h:=h.2 hc235
          refine ec_skip ?_
          refine sq_n ?_
          iterate 2 refine ec_seq ?_
          refine ec_region ?_
          refine o_w (v:=.int .i64 (0:Int)) (r_asg rfl) ?_
          refine eo_nil_sq ?_
          refine ec_block ?_
          obtain ⟨A237,c238,eA237,H239⟩:=O59e1.still
          subst eA237
          have Zw59e_240:=Fr.refl (b10::L) w59e
          obtain ⟨x236,hl236,h⟩:=h
          refine ec_loopER 2 (I:=(fun (s236:Int) ρ ds w'=>∃ (ρ':Env),ρ=envs ρ' [(15,.int .i64 s236),(4,.pointer (some ⟨b10,0,none⟩)),(9,.bool (worksV)),(11,.int .i64 (IntKind.i64.wrap ((Int.tmod (IntKind.i64.wrap d2) (8:Int)) + (1:Int)))),(12,.slice A237 x59.1.length c238)]∧ds=[]∧Fr (b10::L) w59e w'∧Ext w w'∧Blk w' b10 24 [.int .i64 x59.2.2.1,.int .i64 x59.2.2.2.1,.slice A59e5 x59.2.2.2.2.length c59e5])) (J:=(fun (y':Bool) ρ ds wz=>bodyE Try.prog #[.tmp 8] (Ret fun v w'=>Ext w w'∧v=.bool y') .ret ρ ds wz)) ?_ hl236 ?_ ?_ ?_
          ·intro s236 z236 ρ236 ds236 w236r hI236 hb236
           obtain ⟨ρ236r,rfl,rfl,F236r,E236r,B236rb10⟩:=hI236
           have h:=hb236
           unfold law16_BufferYoungest_b236 at h
           have G245:Fr (own (.slice A237 x59.1.length c238)++(b10::L)) w59e w236r:=(Fr.refl _ _).stp F236r (upc (.inl (List.mem_append_right _ (List.Mem.head _))) (fun m hm=>Or.inl (List.mem_append_right _ (List.Mem.tail _ hm))))
           have G246:Fr (b10::L) w59e w236r:=Zw59e_240.stp F236r (upc (.inl (List.Mem.head _)) (fun m hm=>Or.inl (List.Mem.tail _ hm)))
           iterate 2 refine ec_seq ?_
           refine ec_region ?_
           refine o_w (v:=.int .i64 s236) (r_mov rfl) ?_
           refine o_w (v:=.int .i64 (IntKind.i64.wrap ((Int.tmod (IntKind.i64.wrap d2) (8:Int)) + (1:Int)))) (r_mov rfl) ?_
           refine o_w (v:=.bool (decide (s236<(IntKind.i64.wrap ((Int.tmod (IntKind.i64.wrap d2) (8:Int)) + (1:Int)))))) (r_int rfl rfl rfl) ?_
           refine eo_nil_sq ?_
           refine ec_cond rfl (fun hc247=>?_) (fun hc247=>?_)
           ·replace h:=h.1 hc247
            refine ec_skip ?_
            refine sq_n ?_
            refine ec_seq ?_
            refine ec_block ?_
            refine ec_seq ?_
            obtain ⟨ha259,h⟩:=h
            obtain ⟨cs260,l262,H261⟩:=Stb.elem (by decide) (H59e5.up G245 (fun _ h=>h) (upc (.inl (List.mem_append_right _ (List.Mem.head _))) (fun m hm=>Or.inl (List.mem_append_right _ (List.Mem.tail _ hm))))) s236 ha259.1 ha259.2
            obtain ⟨rfl,H263⟩:=kNm_open2 H261
            obtain ⟨ha264,h⟩:=h
            obtain ⟨cs265,l267,H266⟩:=Stb.elem (by decide) (H239.fr G246 (fun _ h=>h)) (IntKind.i64.wrap ((IntKind.i64.wrap ((x59.1.length:Int) - (IntKind.i64.wrap ((Int.tmod (IntKind.i64.wrap d2) (8:Int)) + (1:Int))))) + s236)) ha264.1 ha264.2
            obtain ⟨rfl,H268⟩:=kNm_open2 H266
            refine ec_any0 (by kernel_rfl) [[],[0],[],[0,1,2],[0,1,2,3],[],[],[6],[],[6,7,8],[],[6,7,8,9,10],[5,6,7,8,9,10,11],[5,6,7,8,9,10,11,12],[0,1,2,3,4,5,6,7,8,9,10,11,12,13]] [105,106,107,108,109,110,111,112,113,114,115,116,117,118,119] [fun v _=>v=(.pointer (some ⟨b10,2,none⟩):Value),fun v _=>v=(.slice A59e5 x59.2.2.2.2.length c59e5:Value),fun v _=>v=(.int .i64 s236:Value),fun v _=>v=(.pointer (some (elemA A59e5 kNm.n s236.toNat)):Value),fun v _=>v=(.agg (cNm (nth x59.2.2.2.2 s236)).toArray:Value),fun v _=>v=(.slice A237 x59.1.length c238:Value),fun v _=>v=(.slice A237 x59.1.length c238:Value),fun v _=>v=(.int .i64 (x59.1.length:Int):Value),fun v _=>v=(.int .i64 (IntKind.i64.wrap ((Int.tmod (IntKind.i64.wrap d2) (8:Int)) + (1:Int))):Value),fun v _=>v=(.int .i64 (IntKind.i64.wrap ((x59.1.length:Int) - (IntKind.i64.wrap ((Int.tmod (IntKind.i64.wrap d2) (8:Int)) + (1:Int))))):Value),fun v _=>v=(.int .i64 s236:Value),fun v _=>v=(.int .i64 (IntKind.i64.wrap ((IntKind.i64.wrap ((x59.1.length:Int) - (IntKind.i64.wrap ((Int.tmod (IntKind.i64.wrap d2) (8:Int)) + (1:Int))))) + s236)):Value),fun v _=>v=(.pointer (some (elemA A237 kNm.n (IntKind.i64.wrap ((IntKind.i64.wrap ((x59.1.length:Int) - (IntKind.i64.wrap ((Int.tmod (IntKind.i64.wrap d2) (8:Int)) + (1:Int))))) + s236)).toNat)):Value),fun v _=>v=(.agg (cNm (nth x59.1 (IntKind.i64.wrap ((IntKind.i64.wrap ((x59.1.length:Int) - (IntKind.i64.wrap ((Int.tmod (IntKind.i64.wrap d2) (8:Int)) + (1:Int))))) + s236)))).toArray:Value),fun v _=>v=(.bool (!((((nth x59.2.2.2.2 s236).kind)==((nth x59.1 (IntKind.i64.wrap ((IntKind.i64.wrap ((x59.1.length:Int) - (IntKind.i64.wrap ((Int.tmod (IntKind.i64.wrap d2) (8:Int)) + (1:Int))))) + s236))).kind))&&((((nth x59.2.2.2.2 s236).key)==((nth x59.1 (IntKind.i64.wrap ((IntKind.i64.wrap ((x59.1.length:Int) - (IntKind.i64.wrap ((Int.tmod (IntKind.i64.wrap d2) (8:Int)) + (1:Int))))) + s236))).key))&&true))):Value)] (by kernel_rfl) ⟨fun _ _ _ _ _ h=>h,fun _ _ _ _ _ h=>h,fun _ _ _ _ _ h=>h,fun _ _ _ _ _ h=>h,fun _ _ _ _ _ h=>h,fun _ _ _ _ _ h=>h,fun _ _ _ _ _ h=>h,fun _ _ _ _ _ h=>h,fun _ _ _ _ _ h=>h,fun _ _ _ _ _ h=>h,fun _ _ _ _ _ h=>h,fun _ _ _ _ _ h=>h,fun _ _ _ _ _ h=>h,fun _ _ _ _ _ h=>h,fun _ _ _ _ _ h=>h,trivial⟩ ?_ ?_
            ·refine ⟨?_,?_,?_,?_,?_,?_,?_,?_,?_,?_,?_,?_,?_,?_,?_,trivial⟩
             ·intro ρ w258o F258o hS hρ
              have q4:ρ 4=.pointer (some ⟨b10,0,none⟩):=hρ 4 (by kernel_rfl)
              exact o_q (r_fa fld_buffer_Buffer_2 rfl q4) ⟨Fr.refl _ _,rfl⟩
             ·intro ρ w258o F258o hS hρ
              have q105:ρ 105=.pointer (some ⟨b10,2,none⟩):=hS 0 (by decide) 105 rfl
              exact o_q (r_ld one_s_buffer_Name q105 ((B236rb10.ex F258o).cell rfl)) ⟨Fr.refl _ _,rfl⟩
             ·intro ρ w258o F258o hS hρ
              have q15:ρ 15=.int .i64 s236:=hρ 15 (by kernel_rfl)
              exact o_q (r_mov q15) ⟨Fr.refl _ _,rfl⟩
             ·intro ρ w258o F258o hS hρ
              have q106:ρ 106=.slice A59e5 x59.2.2.2.2.length c59e5:=hS 1 (by decide) 106 rfl
              have q107:ρ 107=.int .i64 s236:=hS 2 (by decide) 107 rfl
              exact o_q (r_ia slc_s_buffer_Name q106 q107 ((H59e5.fr (G245.trans (Fr.ext F258o)) (fun _ h=>h)).now.2 _ (lt_toNat ha259.1 ha259.2)).1 ha259.1 ha259.2) ⟨Fr.refl _ _,rfl⟩
             ·intro ρ w258o F258o hS hρ
              have G294:Fr (b10::L) w236r w258o:=Fr.ext F258o
              have q108:ρ 108=.pointer (some (elemA A59e5 kNm.n s236.toNat)):=hS 3 (by decide) 108 rfl
              exact o_q (r_lda' agg_buffer_Name q108 (elemA_spot _ _ _) (vs:=(cNm (nth x59.2.2.2.2 s236))) rfl ((H263.fr G294 (fun _ h=>h)).now.1)) ⟨Fr.refl _ _,rfl⟩
             ·intro ρ w258o F258o hS hρ
              have q12:ρ 12=.slice A237 x59.1.length c238:=hρ 12 (by kernel_rfl)
              exact o_q (r_mov q12) ⟨Fr.refl _ _,rfl⟩
             ·intro ρ w258o F258o hS hρ
              have q12:ρ 12=.slice A237 x59.1.length c238:=hρ 12 (by kernel_rfl)
              exact o_q (r_mov q12) ⟨Fr.refl _ _,rfl⟩
             ·intro ρ w258o F258o hS hρ
              have q111:ρ 111=.slice A237 x59.1.length c238:=hS 6 (by decide) 111 rfl
              exact o_q (r_len_slc un_s_buffer_Name q111) ⟨Fr.refl _ _,rfl⟩
             ·intro ρ w258o F258o hS hρ
              have q11:ρ 11=.int .i64 (IntKind.i64.wrap ((Int.tmod (IntKind.i64.wrap d2) (8:Int)) + (1:Int))):=hρ 11 (by kernel_rfl)
              exact o_q (r_mov q11) ⟨Fr.refl _ _,rfl⟩
             ·intro ρ w258o F258o hS hρ
              have q112:ρ 112=.int .i64 (x59.1.length:Int):=hS 7 (by decide) 112 rfl
              have q113:ρ 113=.int .i64 (IntKind.i64.wrap ((Int.tmod (IntKind.i64.wrap d2) (8:Int)) + (1:Int))):=hS 8 (by decide) 113 rfl
              exact o_q (r_int q112 q113 rfl) ⟨Fr.refl _ _,rfl⟩
             ·intro ρ w258o F258o hS hρ
              have q15:ρ 15=.int .i64 s236:=hρ 15 (by kernel_rfl)
              exact o_q (r_mov q15) ⟨Fr.refl _ _,rfl⟩
             ·intro ρ w258o F258o hS hρ
              have q114:ρ 114=.int .i64 (IntKind.i64.wrap ((x59.1.length:Int) - (IntKind.i64.wrap ((Int.tmod (IntKind.i64.wrap d2) (8:Int)) + (1:Int))))):=hS 9 (by decide) 114 rfl
              have q115:ρ 115=.int .i64 s236:=hS 10 (by decide) 115 rfl
              exact o_q (r_int q114 q115 rfl) ⟨Fr.refl _ _,rfl⟩
             ·intro ρ w258o F258o hS hρ
              have q110:ρ 110=.slice A237 x59.1.length c238:=hS 5 (by decide) 110 rfl
              have q116:ρ 116=.int .i64 (IntKind.i64.wrap ((IntKind.i64.wrap ((x59.1.length:Int) - (IntKind.i64.wrap ((Int.tmod (IntKind.i64.wrap d2) (8:Int)) + (1:Int))))) + s236)):=hS 11 (by decide) 116 rfl
              exact o_q (r_ia slc_s_buffer_Name q110 q116 ((H239.fr (G246.trans (Fr.ext F258o)) (fun _ h=>h)).now.2 _ (lt_toNat ha264.1 ha264.2)).1 ha264.1 ha264.2) ⟨Fr.refl _ _,rfl⟩
             ·intro ρ w258o F258o hS hρ
              have G312:Fr (b10::L) w236r w258o:=Fr.ext F258o
              have q117:ρ 117=.pointer (some (elemA A237 kNm.n (IntKind.i64.wrap ((IntKind.i64.wrap ((x59.1.length:Int) - (IntKind.i64.wrap ((Int.tmod (IntKind.i64.wrap d2) (8:Int)) + (1:Int))))) + s236)).toNat)):=hS 12 (by decide) 117 rfl
              exact o_q (r_lda' agg_buffer_Name q117 (elemA_spot _ _ _) (vs:=(cNm (nth x59.1 (IntKind.i64.wrap ((IntKind.i64.wrap ((x59.1.length:Int) - (IntKind.i64.wrap ((Int.tmod (IntKind.i64.wrap d2) (8:Int)) + (1:Int))))) + s236))))) rfl ((H268.fr G312 (fun _ h=>h)).now.1)) ⟨Fr.refl _ _,rfl⟩
             ·intro ρ w258o F258o hS hρ
              have q109:ρ 109=.agg (cNm (nth x59.2.2.2.2 s236)).toArray:=hS 4 (by decide) 109 rfl
              have q118:ρ 118=.agg (cNm (nth x59.1 (IntKind.i64.wrap ((IntKind.i64.wrap ((x59.1.length:Int) - (IntKind.i64.wrap ((Int.tmod (IntKind.i64.wrap d2) (8:Int)) + (1:Int))))) + s236)))).toArray:=hS 13 (by decide) 118 rfl
              exact o_q (r_neSt eqg_buffer_Name (eqs_buffer_Name ((nth x59.2.2.2.2 s236).kind) ((nth x59.2.2.2.2 s236).key) ((nth x59.1 (IntKind.i64.wrap ((IntKind.i64.wrap ((x59.1.length:Int) - (IntKind.i64.wrap ((Int.tmod (IntKind.i64.wrap d2) (8:Int)) + (1:Int))))) + s236))).kind) ((nth x59.1 (IntKind.i64.wrap ((IntKind.i64.wrap ((x59.1.length:Int) - (IntKind.i64.wrap ((Int.tmod (IntKind.i64.wrap d2) (8:Int)) + (1:Int))))) + s236))).key)) q109 q118) ⟨Fr.refl _ _,rfl⟩
            ·intro ρ w258 F258 hS hρ
             have q119:ρ 119=.bool (!((((nth x59.2.2.2.2 s236).kind)==((nth x59.1 (IntKind.i64.wrap ((IntKind.i64.wrap ((x59.1.length:Int) - (IntKind.i64.wrap ((Int.tmod (IntKind.i64.wrap d2) (8:Int)) + (1:Int))))) + s236))).kind))&&((((nth x59.2.2.2.2 s236).key)==((nth x59.1 (IntKind.i64.wrap ((IntKind.i64.wrap ((x59.1.length:Int) - (IntKind.i64.wrap ((Int.tmod (IntKind.i64.wrap d2) (8:Int)) + (1:Int))))) + s236))).key))&&true))):=hS 14 119 rfl
             obtain ⟨ρ',rfl⟩:∃ ρ',ρ=envs (ovr [105,106,107,108,109,110,111,112,113,114,115,116,117,118,119] ρ' _) [(119,.bool (!((((nth x59.2.2.2.2 s236).kind)==((nth x59.1 (IntKind.i64.wrap ((IntKind.i64.wrap ((x59.1.length:Int) - (IntKind.i64.wrap ((Int.tmod (IntKind.i64.wrap d2) (8:Int)) + (1:Int))))) + s236))).kind))&&((((nth x59.2.2.2.2 s236).key)==((nth x59.1 (IntKind.i64.wrap ((IntKind.i64.wrap ((x59.1.length:Int) - (IntKind.i64.wrap ((Int.tmod (IntKind.i64.wrap d2) (8:Int)) + (1:Int))))) + s236))).key))&&true))))]:=⟨ρ,ovr_self hρ ⟨q119,trivial⟩⟩
             have E314:=E236r.trans F258
             refine sq_n ?_
             refine ec_cond rfl (fun hc323=>?_) (fun hc323=>?_)
             ·replace h:=h.1 hc323
              refine ec_seq ?_
              refine ec_region ?_
              refine o_w (v:=.bool false) (r_asg rfl) ?_
              refine eo_nil_sq ?_
              refine ec_ret ?_
              refine blk_ret ?_
              refine sq_ret ?_
              subst h
              exact lqR_r (end1 rfl ⟨_,rfl,E314,rfl⟩)
             ·replace h:=h.2 hc323
              refine ec_skip ?_
              refine blk_n ?_
              refine sq_n ?_
              refine ec_region ?_
              refine o_w (v:=.int .i64 s236) (r_mov rfl) ?_
              refine o_w (v:=.int .i64 (IntKind.i64.wrap (s236 + (1:Int)))) (r_int rfl rfl rfl) ?_
              refine o_w (v:=.int .i64 (IntKind.i64.wrap (s236 + (1:Int)))) (r_asg rfl) ?_
              refine eo_nil ?_
              subst h
              exact lqR_n ⟨_,envs_self ⟨rfl,rfl,rfl,rfl,rfl,trivial⟩,rfl,(F236r.trans (Fr.ext F258)),E314,(B236rb10.ex F258)⟩
           ·replace h:=h.2 hc247
            refine ec_exit ?_
            refine sq_exit ?_
            subst h
            exact lqR_x ⟨_,envs_self ⟨rfl,rfl,rfl,rfl,rfl,trivial⟩,rfl,F236r,E236r,B236rb10⟩
          ·exact ⟨_,envs_self ⟨rfl,rfl,rfl,rfl,rfl,trivial⟩,rfl,(Fr.refl _ _),E59e,B59eb10⟩
          ·rintro sx236 rfl ρ236e ds236e w236e ⟨ρ236e,rfl,rfl,F236e,E236e,B236eb10⟩
           replace h:=h.1 _ rfl
           refine blk_hit ?_
           refine sq_n ?_
           refine ec_seq ?_
           refine ec_region ?_
           refine o_w (v:=.bool (worksV)) (r_mov rfl) ?_
           refine o_w (v:=.bool (worksV)) (r_asg rfl) ?_
           refine eo_nil_sq ?_
           refine ec_ret ?_
           subst h
           exact (end1 rfl ⟨_,rfl,E236e,rfl⟩)
          ·rintro y236 rfl ρ236q ds236q w236q hJ
           have hy:=h.2 _ rfl
           subst hy
           refine blk_ret ?_
           refine sq_ret ?_
           exact hJ
end Go.Proofs.Ytpopikeebobjnaa
