/- The law ArenaBelow: what it comes to. -/
import Derived.Test.YthifkdgljapmeaaEy
namespace Go.Proofs.Ythifkdgljapmeaa
open Go Go.RowKit
set_option linter.unusedVariables false
set_option linter.unusedSimpArgs false
def law08_ArenaBelow_raw (d0:Arena) (d1:Arena) (d2:Arena) (y:Bool):Prop :=
 ((!(worksV))=true→(y=false))∧((!(worksV))=false→(((!(((fewA d0)&&(fewA d1))&&(fewA d2)))=true→(y=(worksV)))∧((!(((fewA d0)&&(fewA d1))&&(fewA d2)))=false→((sma d0)∧((sma d1)∧(((belowA d0 d1)=true→sma d1)∧(((belowA d0 d1)=true→sma d2)∧((((belowA d0 d1)&&(belowA d1 d2))=true→sma d0)∧((((belowA d0 d1)&&(belowA d1 d2))=true→sma d2)∧(((((belowA d0 d1)&&(belowA d1 d2))&&(!(belowA d0 d2)))=true→(y=false))∧((((belowA d0 d1)&&(belowA d1 d2))&&(!(belowA d0 d2)))=false→((sma d0)∧(((!((checkA d0) != (0:Int)))=true→sma d1)∧(((((checkA d0) != (0:Int))||((checkA d1) != (0:Int)))=true→((sma d0)∧((sma d1)∧(y=(!(belowA d0 d1))))))∧((((checkA d0) != (0:Int))||((checkA d1) != (0:Int)))=false→((sma d0)∧((sml d1.slots)∧((wfl d1.slots)∧(∃ x109,x109=(mergeA d0 d1.slots)∧(((decide ((0:Int)<x109.2.2))=true→((sma d0)∧((sma x109.1)∧(y=(belowA d0 x109.1)))))∧((decide ((0:Int)<x109.2.2))=false→((sma d0)∧((sma d2)∧(((belowA d0 d2)=true→sma d1)∧(((belowA d0 d2)=true→sma d2)∧((sma d0)∧((sma x109.1)∧(((belowA d0 x109.1)=true→sma d1)∧(((belowA d0 x109.1)=true→sma x109.1)∧(((((belowA d0 x109.1)&&(belowA d1 x109.1))&&(!(!((belowA d0 d2)&&(belowA d1 d2)))))=true→sma x109.1)∧(((((belowA d0 x109.1)&&(belowA d1 x109.1))&&(!(!((belowA d0 d2)&&(belowA d1 d2)))))=true→sma d2)∧(((((belowA d0 x109.1)&&(belowA d1 x109.1))&&((!((belowA d0 d2)&&(belowA d1 d2)))||(belowA x109.1 d2)))=true→sma d0)∧(((((belowA d0 x109.1)&&(belowA d1 x109.1))&&((!((belowA d0 d2)&&(belowA d1 d2)))||(belowA x109.1 d2)))=true→sma d0)∧(y=((((belowA d0 x109.1)&&(belowA d1 x109.1))&&((!((belowA d0 d2)&&(belowA d1 d2)))||(belowA x109.1 d2)))&&(belowA d0 d0))))))))))))))))))))))))))))))))))))
set_option maxRecDepth 20000 in
set_option maxHeartbeats 4000000 in
theorem law08_ArenaBelow_c {L:List Nat} {w:World} {csP0:List Value} (d0:Arena) (HP0:Stb L w (fun w=>kArena.r w csP0 d0)) {csP1:List Value} (d1:Arena) (HP1:Stb L w (fun w=>kArena.r w csP1 d1)) {csP2:List Value} (d2:Arena) (HP2:Stb L w (fun w=>kArena.r w csP2 d2)) (hL:Lt L w) {y:Bool} (h:law08_ArenaBelow_raw d0 d1 d2 y) :
  Calls Try.prog 8 [.agg csP0.toArray,.agg csP1.toArray,.agg csP2.toArray].toArray w (Ret fun v w'=>Ext w w'∧v=.bool y):=by
 obtain ⟨A1,c2,A4,c5,rfl,H3,H6⟩:=kArena_open HP0
 obtain ⟨A7,c8,A10,c11,rfl,H9,H12⟩:=kArena_open HP1
 obtain ⟨A13,c14,A16,c17,rfl,H15,H18⟩:=kArena_open HP2
 unfold law08_ArenaBelow_raw at h
 refine calls_ec Try.func8 rfl rfl rfl ?_
 refine ec_seq ?_
 refine ec_region ?_
 refine o_box (cs:=(cArena d0 A1 c2 A4 c5)) rfl rfl rfl ?_
 intro b19 w19 e19 F19 B19
 have S19:=B19.stb (nin hL e19)
 have G20:Fr L w w19:=Fr.ext F19
 refine o_box (cs:=(cArena d1 A7 c8 A10 c11)) rfl rfl rfl ?_
 intro b21 w21 e21 F21 B21
 have S21:=B21.stb (nin (hL.fr F19) e21)
 have E22:=F19.trans F21
 have G24:Fr L w19 w21:=Fr.ext F21
 refine o_box (cs:=(cArena d2 A13 c14 A16 c17)) rfl rfl rfl ?_
 intro b25 w25 e25 F25 B25
 have S25:=B25.stb (nin (hL.fr E22) e25)
 have E26:=E22.trans F25
 have G29:Fr L w21 w25:=Fr.ext F25
 refine o_w (v:=.bool false) (r_asg rfl) ?_
 refine eo_nil_sq ?_
 refine ec_seq ?_
 refine ec_region ?_
 refine o_call cf_law08_works rfl (law08_works_c (hL.fr E26) (works8_ev)) rfl rfl ?_
 rintro _ w30 ⟨F30,rfl⟩
 have E31:=E26.trans F30
 have G35:Fr L w25 w30:=Fr.ext F30
 refine o_w (v:=.bool (worksV)) (r_asg rfl) ?_
 refine eo_nil_sq ?_
 iterate 2 refine ec_seq ?_
 refine ec_region ?_
 refine o_w (v:=.bool (worksV)) (r_mov rfl) ?_
 refine o_w (v:=.bool (!(worksV))) (r_not rfl) ?_
 refine eo_nil_sq ?_
 refine ec_cond rfl (fun hc36=>?_) (fun hc36=>?_)
 ·replace h:=h.1 hc36
  refine ec_seq ?_
  refine ec_region ?_
  refine o_w (v:=.bool false) (r_asg rfl) ?_
  refine eo_nil_sq ?_
  refine ec_ret ?_
  refine sq_ret ?_
  subst h
  exact (end1 rfl ⟨_,rfl,E31,rfl⟩)
 ·replace h:=h.2 hc36
  refine ec_skip ?_
  refine sq_n ?_
  refine ec_seq ?_
  refine ec_region ?_
  refine o_w (v:=.agg (cArena d0 A1 c2 A4 c5).toArray) (r_lda agg_api_Arena rfl (vs:=(cArena d0 A1 c2 A4 c5)) rfl ((S19.fr ((G24.trans (Fr.ext F25)).trans (Fr.ext F30)) (fun _ h=>h)).now.part (n:=3) rfl)) ?_
  refine o_call cf_law08_Few rfl (law08_Few_c d0 (kArena_mk (d:=d0) (H3.fr (((G20.trans (Fr.ext F21)).trans (Fr.ext F25)).trans (Fr.ext F30)) (fun _ h=>h)) (H6.fr (((G20.trans (Fr.ext F21)).trans (Fr.ext F25)).trans (Fr.ext F30)) (fun _ h=>h))) (hL.fr E31) (fewA_ev d0)) rfl rfl ?_
  rintro _ w39 ⟨F39,rfl⟩
  have E40:=E31.trans F39
  have G41:=(((G20.trans (Fr.ext F21)).trans (Fr.ext F25)).trans (Fr.ext F30)).trans (Fr.ext F39)
  refine o_w (v:=.bool (fewA d0)) (r_mov rfl) ?_
  refine o_vg (v:=.agg (cArena d1 A7 c8 A10 c11).toArray) (want_ct (t:=18) rfl rfl) (fun hk=>(r_lda agg_api_Arena rfl (vs:=(cArena d1 A7 c8 A10 c11)) rfl ((S21.fr ((G29.trans (Fr.ext F30)).trans (Fr.ext F39)) (fun _ h=>h)).now.part (n:=3) rfl))) rfl rfl ?_
  refine o_callg (V:=.bool (fewA d1)) cf_law08_Few (want_ct (t:=18) rfl rfl) (fun hk=>(mapv1 (gdT hk))) (fun hk=>(law08_Few_c d1 (kArena_mk (d:=d1) (H9.fr G41 (fun _ h=>h)) (H12.fr G41 (fun _ h=>h))) (hL.fr E40) (fewA_ev d1))) rfl ?_
  intro w45 F45
  have E46:=E40.trans F45
  have G48:=(((G24.trans (Fr.ext F25)).trans (Fr.ext F30)).trans (Fr.ext F39)).trans (Fr.ext F45)
  refine o_w (v:=.bool ((fewA d0)&&(fewA d1))) (r_pickAnd rfl (fun ht=>(gdT ht)) rfl) ?_
  refine o_w (v:=.bool ((fewA d0)&&(fewA d1))) (r_mov rfl) ?_
  refine o_vg (v:=.agg (cArena d2 A13 c14 A16 c17).toArray) (want_ct (t:=22) rfl rfl) (fun hk=>(r_lda agg_api_Arena rfl (vs:=(cArena d2 A13 c14 A16 c17)) rfl ((S25.fr ((G35.trans (Fr.ext F39)).trans (Fr.ext F45)) (fun _ h=>h)).now.part (n:=3) rfl))) rfl rfl ?_
  refine o_callg (V:=.bool (fewA d2)) cf_law08_Few (want_ct (t:=22) rfl rfl) (fun hk=>(mapv1 (gdT hk))) (fun hk=>(law08_Few_c d2 (kArena_mk (d:=d2) (H15.fr (G41.trans (Fr.ext F45)) (fun _ h=>h)) (H18.fr (G41.trans (Fr.ext F45)) (fun _ h=>h))) (hL.fr E46) (fewA_ev d2))) rfl ?_
  intro w51 F51
  have E52:=E46.trans F51
  have G55:=(((G29.trans (Fr.ext F30)).trans (Fr.ext F39)).trans (Fr.ext F45)).trans (Fr.ext F51)
  refine o_w (v:=.bool (((fewA d0)&&(fewA d1))&&(fewA d2))) (r_pickAnd rfl (fun ht=>(gdT ht)) rfl) ?_
  refine o_w (v:=.bool (((fewA d0)&&(fewA d1))&&(fewA d2))) (r_asg rfl) ?_
  refine eo_nil_sq ?_
  iterate 2 refine ec_seq ?_
  refine ec_region ?_
  refine o_w (v:=.bool (((fewA d0)&&(fewA d1))&&(fewA d2))) (r_mov rfl) ?_
  refine o_w (v:=.bool (!(((fewA d0)&&(fewA d1))&&(fewA d2)))) (r_not rfl) ?_
  refine eo_nil_sq ?_
  refine ec_cond rfl (fun hc57=>?_) (fun hc57=>?_)
  ·replace h:=h.1 hc57
   refine ec_seq ?_
   refine ec_region ?_
   refine o_w (v:=.bool (worksV)) (r_mov rfl) ?_
   refine o_w (v:=.bool (worksV)) (r_asg rfl) ?_
   refine eo_nil_sq ?_
   refine ec_ret ?_
   refine sq_ret ?_
   subst h
   exact (end1 rfl ⟨_,rfl,E52,rfl⟩)
  ·replace h:=h.2 hc57
   refine ec_skip ?_
   refine sq_n ?_
   iterate 2 refine ec_seq ?_
   refine ec_region ?_
   refine o_w (v:=.agg (cArena d0 A1 c2 A4 c5).toArray) (r_lda agg_api_Arena rfl (vs:=(cArena d0 A1 c2 A4 c5)) rfl ((S19.fr (G48.trans (Fr.ext F51)) (fun _ h=>h)).now.part (n:=3) rfl)) ?_
   refine o_w (v:=.agg (cArena d1 A7 c8 A10 c11).toArray) (r_lda agg_api_Arena rfl (vs:=(cArena d1 A7 c8 A10 c11)) rfl ((S21.fr G55 (fun _ h=>h)).now.part (n:=3) rfl)) ?_
   obtain ⟨ha61,h⟩:=h
   obtain ⟨ha62,h⟩:=h
   refine o_call cf_arena_Below rfl (arena_Below_c d0 (kArena_mk (d:=d0) (H3.fr ((G41.trans (Fr.ext F45)).trans (Fr.ext F51)) (fun _ h=>h)) (H6.fr ((G41.trans (Fr.ext F45)).trans (Fr.ext F51)) (fun _ h=>h))) d1 (kArena_mk (d:=d1) (H9.fr ((G41.trans (Fr.ext F45)).trans (Fr.ext F51)) (fun _ h=>h)) (H12.fr ((G41.trans (Fr.ext F45)).trans (Fr.ext F51)) (fun _ h=>h))) (hL.fr E52) (arBelow_ev d0 d1 ha61 ha62)) rfl rfl ?_
   rintro _ w60 ⟨F60,rfl⟩
   have E63:=E52.trans F60
   have G67:=(((G35.trans (Fr.ext F39)).trans (Fr.ext F45)).trans (Fr.ext F51)).trans (Fr.ext F60)
   refine o_w (v:=.bool (belowA d0 d1)) (r_mov rfl) ?_
   refine o_vg (v:=.agg (cArena d1 A7 c8 A10 c11).toArray) (want_ct (t:=32) rfl rfl) (fun hk=>(r_lda agg_api_Arena rfl (vs:=(cArena d1 A7 c8 A10 c11)) rfl ((S21.fr (G55.trans (Fr.ext F60)) (fun _ h=>h)).now.part (n:=3) rfl))) rfl rfl ?_
   refine o_vg (v:=.agg (cArena d2 A13 c14 A16 c17).toArray) (want_ct (t:=32) rfl rfl) (fun hk=>(r_lda agg_api_Arena rfl (vs:=(cArena d2 A13 c14 A16 c17)) rfl ((S25.fr G67 (fun _ h=>h)).now.part (n:=3) rfl))) rfl rfl ?_
   obtain ⟨ha69,h⟩:=h
   obtain ⟨ha70,h⟩:=h
   refine o_callg (V:=.bool (belowA d1 d2)) cf_arena_Below (want_ct (t:=32) rfl rfl) (fun hk=>(mapv2 (gdT hk) (gdT hk))) (fun hk=>(arena_Below_c d1 (kArena_mk (d:=d1) (H9.fr (((G41.trans (Fr.ext F45)).trans (Fr.ext F51)).trans (Fr.ext F60)) (fun _ h=>h)) (H12.fr (((G41.trans (Fr.ext F45)).trans (Fr.ext F51)).trans (Fr.ext F60)) (fun _ h=>h))) d2 (kArena_mk (d:=d2) (H15.fr (((G41.trans (Fr.ext F45)).trans (Fr.ext F51)).trans (Fr.ext F60)) (fun _ h=>h)) (H18.fr (((G41.trans (Fr.ext F45)).trans (Fr.ext F51)).trans (Fr.ext F60)) (fun _ h=>h))) (hL.fr E63) (arBelow_ev d1 d2 (ha69 hk) (ha70 hk)))) rfl ?_
   intro w68 F68
   have E71:=E63.trans F68
   have G72:=(((G41.trans (Fr.ext F45)).trans (Fr.ext F51)).trans (Fr.ext F60)).trans (Fr.ext F68)
   refine o_w (v:=.bool ((belowA d0 d1)&&(belowA d1 d2))) (r_pickAnd rfl (fun ht=>(gdT ht)) rfl) ?_
   refine o_w (v:=.bool ((belowA d0 d1)&&(belowA d1 d2))) (r_mov rfl) ?_
   refine o_vg (v:=.agg (cArena d0 A1 c2 A4 c5).toArray) (want_ct (t:=37) rfl rfl) (fun hk=>(r_lda agg_api_Arena rfl (vs:=(cArena d0 A1 c2 A4 c5)) rfl ((S19.fr (((G48.trans (Fr.ext F51)).trans (Fr.ext F60)).trans (Fr.ext F68)) (fun _ h=>h)).now.part (n:=3) rfl))) rfl rfl ?_
   refine o_vg (v:=.agg (cArena d2 A13 c14 A16 c17).toArray) (want_ct (t:=37) rfl rfl) (fun hk=>(r_lda agg_api_Arena rfl (vs:=(cArena d2 A13 c14 A16 c17)) rfl ((S25.fr (G67.trans (Fr.ext F68)) (fun _ h=>h)).now.part (n:=3) rfl))) rfl rfl ?_
   obtain ⟨ha77,h⟩:=h
   obtain ⟨ha78,h⟩:=h
   refine o_callg (V:=.bool (belowA d0 d2)) cf_arena_Below (want_ct (t:=37) rfl rfl) (fun hk=>(mapv2 (gdT hk) (gdT hk))) (fun hk=>(arena_Below_c d0 (kArena_mk (d:=d0) (H3.fr G72 (fun _ h=>h)) (H6.fr G72 (fun _ h=>h))) d2 (kArena_mk (d:=d2) (H15.fr G72 (fun _ h=>h)) (H18.fr G72 (fun _ h=>h))) (hL.fr E71) (arBelow_ev d0 d2 (ha77 hk) (ha78 hk)))) rfl ?_
   intro w76 F76
   have E79:=E71.trans F76
   have G81:=(((G48.trans (Fr.ext F51)).trans (Fr.ext F60)).trans (Fr.ext F68)).trans (Fr.ext F76)
   refine o_vg (v:=.bool (!(belowA d0 d2))) (want_ct (t:=37) rfl rfl) (fun hk=>(r_not (gdT hk))) rfl rfl ?_
   refine o_w (v:=.bool (((belowA d0 d1)&&(belowA d1 d2))&&(!(belowA d0 d2)))) (r_pickAnd rfl (fun ht=>(gdT ht)) rfl) ?_
   refine eo_nil_sq ?_
   refine ec_cond rfl (fun hc84=>?_) (fun hc84=>?_)
   ·replace h:=h.1 hc84
    refine ec_seq ?_
    refine ec_region ?_
    refine o_w (v:=.bool false) (r_asg rfl) ?_
    refine eo_nil_sq ?_
    refine ec_ret ?_
    refine sq_ret ?_
    subst h
    exact (end1 rfl ⟨_,rfl,E79,rfl⟩)
   ·replace h:=h.2 hc84
    refine ec_skip ?_
    refine sq_n ?_
    iterate 2 refine ec_seq ?_
    refine ec_region ?_
    refine o_w (v:=.agg (cArena d0 A1 c2 A4 c5).toArray) (r_lda agg_api_Arena rfl (vs:=(cArena d0 A1 c2 A4 c5)) rfl ((S19.fr G81 (fun _ h=>h)).now.part (n:=3) rfl)) ?_
    obtain ⟨ha87,h⟩:=h
    refine o_call cf_arena_Check rfl (arena_Check_c d0 (kArena_mk (d:=d0) (H3.fr (G72.trans (Fr.ext F76)) (fun _ h=>h)) (H6.fr (G72.trans (Fr.ext F76)) (fun _ h=>h))) (hL.fr E79) (arCheck_ev d0 ha87)) rfl rfl ?_
    rintro _ w86 ⟨F86,rfl⟩
    have E88:=E79.trans F86
    have G91:=(((G55.trans (Fr.ext F60)).trans (Fr.ext F68)).trans (Fr.ext F76)).trans (Fr.ext F86)
    refine o_w (v:=.bool ((checkA d0) != (0:Int))) (r_int rfl rfl rfl) ?_
    refine o_w (v:=.bool ((checkA d0) != (0:Int))) (r_mov rfl) ?_
    refine o_vg (v:=.agg (cArena d1 A7 c8 A10 c11).toArray) (want_cf (t:=46) rfl rfl) (fun hk=>(r_lda agg_api_Arena rfl (vs:=(cArena d1 A7 c8 A10 c11)) rfl ((S21.fr G91 (fun _ h=>h)).now.part (n:=3) rfl))) rfl rfl ?_
    obtain ⟨ha94,h⟩:=h
    refine o_callg (V:=.int .i64 (checkA d1)) cf_arena_Check (want_cf (t:=46) rfl rfl) (fun hk=>(mapv1 (gdT hk))) (fun hk=>(arena_Check_c d1 (kArena_mk (d:=d1) (H9.fr ((G72.trans (Fr.ext F76)).trans (Fr.ext F86)) (fun _ h=>h)) (H12.fr ((G72.trans (Fr.ext F76)).trans (Fr.ext F86)) (fun _ h=>h))) (hL.fr E88) (arCheck_ev d1 (ha94 hk)))) rfl ?_
    intro w93 F93
    have E95:=E88.trans F93
    have G99:=(((G67.trans (Fr.ext F68)).trans (Fr.ext F76)).trans (Fr.ext F86)).trans (Fr.ext F93)
    refine o_vg (v:=.bool ((checkA d1) != (0:Int))) (want_cf (t:=46) rfl rfl) (fun hk=>(r_int (gdT hk) rfl rfl)) rfl rfl ?_
    refine o_w (v:=.bool (((checkA d0) != (0:Int))||((checkA d1) != (0:Int)))) (r_pickOr rfl rfl (fun hf=>(gdT (notT hf)))) ?_
    refine eo_nil_sq ?_
    refine ec_cond rfl (fun hc100=>?_) (fun hc100=>?_)
    ·replace h:=h.1 hc100
     refine ec_seq ?_
     refine ec_region ?_
     iterate 2 refine o_w (v:=.bool (worksV)) (r_mov rfl) ?_
     refine o_v (v:=.agg (cArena d0 A1 c2 A4 c5).toArray) (r_lda agg_api_Arena rfl (vs:=(cArena d0 A1 c2 A4 c5)) rfl ((S19.fr ((G81.trans (Fr.ext F86)).trans (Fr.ext F93)) (fun _ h=>h)).now.part (n:=3) rfl)) (want_t (t:=52) rfl rfl (of_not hc36)) rfl rfl ?_
     refine o_v (v:=.agg (cArena d1 A7 c8 A10 c11).toArray) (r_lda agg_api_Arena rfl (vs:=(cArena d1 A7 c8 A10 c11)) rfl ((S21.fr (G91.trans (Fr.ext F93)) (fun _ h=>h)).now.part (n:=3) rfl)) (want_t (t:=52) rfl rfl (of_not hc36)) rfl rfl ?_
     obtain ⟨ha102,h⟩:=h
     obtain ⟨ha103,h⟩:=h
     refine o_call cf_arena_Below rfl (arena_Below_c d0 (kArena_mk (d:=d0) (H3.fr (((G72.trans (Fr.ext F76)).trans (Fr.ext F86)).trans (Fr.ext F93)) (fun _ h=>h)) (H6.fr (((G72.trans (Fr.ext F76)).trans (Fr.ext F86)).trans (Fr.ext F93)) (fun _ h=>h))) d1 (kArena_mk (d:=d1) (H9.fr (((G72.trans (Fr.ext F76)).trans (Fr.ext F86)).trans (Fr.ext F93)) (fun _ h=>h)) (H12.fr (((G72.trans (Fr.ext F76)).trans (Fr.ext F86)).trans (Fr.ext F93)) (fun _ h=>h))) (hL.fr E95) (arBelow_ev d0 d1 ha102 ha103)) (want_t (t:=52) rfl rfl (of_not hc36)) rfl ?_
     rintro _ w101 ⟨F101,rfl⟩
     have E104:=E95.trans F101
     refine o_v (v:=.bool (!(belowA d0 d1))) (r_not rfl) (want_t (t:=52) rfl rfl (of_not hc36)) rfl rfl ?_
     refine o_w (v:=.bool (!(belowA d0 d1))) (r_pickT rfl (of_not hc36) rfl) ?_
     refine o_w (v:=.bool (!(belowA d0 d1))) (r_asg rfl) ?_
     refine eo_nil_sq ?_
     refine ec_ret ?_
     refine sq_ret ?_
     subst h
     exact (end1 rfl ⟨_,rfl,E104,rfl⟩)
    ·replace h:=h.2 hc100
     refine ec_skip ?_
     refine sq_n ?_
     refine ec_seq ?_
     refine ec_region ?_
     refine o_w (v:=.agg (cArena d0 A1 c2 A4 c5).toArray) (r_lda agg_api_Arena rfl (vs:=(cArena d0 A1 c2 A4 c5)) rfl ((S19.fr ((G81.trans (Fr.ext F86)).trans (Fr.ext F93)) (fun _ h=>h)).now.part (n:=3) rfl)) ?_
     refine o_w (v:=.pointer (some ⟨b21,1,none⟩)) (r_fa fld_api_Arena_1 rfl rfl) ?_
     refine o_w (v:=.slice A7 d1.slots.length c8) (r_ld one_s_api_Entry rfl ((S21.fr (G91.trans (Fr.ext F93)) (fun _ h=>h)).now.cell rfl)) ?_
     obtain ⟨ha110,h⟩:=h
     obtain ⟨ha111,h⟩:=h
     obtain ⟨ha112,h⟩:=h
     obtain ⟨x109,hx109,h⟩:=h
     refine o_call cf_arena_Merge rfl (arena_Merge_c d0 (kArena_mk (d:=d0) (H3.fr (((G72.trans (Fr.ext F76)).trans (Fr.ext F86)).trans (Fr.ext F93)) (fun _ h=>h)) (H6.fr (((G72.trans (Fr.ext F76)).trans (Fr.ext F86)).trans (Fr.ext F93)) (fun _ h=>h))) d1.slots (H9.fr (((G72.trans (Fr.ext F76)).trans (Fr.ext F86)).trans (Fr.ext F93)) (fun _ h=>h)) (hL.fr E95) (eq_ev hx109 (arMerge_ev d0 d1.slots ha110 ha111 ha112))) rfl rfl ?_
     rintro _ w109 ⟨F109,cs113,rfl,H114⟩
     have E115:=E95.trans F109
     have G116:=(((G72.trans (Fr.ext F76)).trans (Fr.ext F86)).trans (Fr.ext F93)).trans (Fr.ext F109)
     obtain ⟨A120,c121,A123,c124,rfl,H122,H125⟩:=kArena_open H114
     refine o_w (v:=.tuple #[.agg (cArena x109.1 A120 c121 A123 c124).toArray,.int .i64 x109.2.1,.int .i64 x109.2.2]) (r_mov rfl) ?_
     refine o_w (v:=.agg (cArena x109.1 A120 c121 A123 c124).toArray) (r_ext rfl rfl) ?_
     refine o_w (v:=.int .i64 x109.2.1) (r_ext rfl rfl) ?_
     refine o_w (v:=.int .i64 x109.2.2) (r_ext rfl rfl) ?_
     refine o_alloc zero_api_Arena rfl rfl rfl ?_
     intro b126 w126 e126 F126 B126
     have n126:w.heap.size≤b126:=by rw [e126]; exact E115.size
     have m127:w.heap.size≤b126:=by rw [e126]; exact G116.size
     have m128:w19.heap.size≤b126:=by rw [e126]; exact (((G81.trans (Fr.ext F86)).trans (Fr.ext F93)).trans (Fr.ext F109)).size
     have m129:w21.heap.size≤b126:=by rw [e126]; exact ((G91.trans (Fr.ext F93)).trans (Fr.ext F109)).size
     have m130:w25.heap.size≤b126:=by rw [e126]; exact (G99.trans (Fr.ext F109)).size
     have m131:w109.heap.size≤b126:=Nat.le_of_eq e126.symm
     have E132:=E115.trans F126
     have G134:=(((G81.trans (Fr.ext F86)).trans (Fr.ext F93)).trans (Fr.ext F109)).trans (Fr.ext F126)
     have G137:Fr L w109 w126:=Fr.ext F126
     refine o_store rfl B126 (vs:=(cArena x109.1 A120 c121 A123 c124)) rfl sz_api_Arena rfl rfl rfl ?_
     intro w138 F138 B138
     have E139:=Ext.st E132 F138 (by simp; omega)
     have G140:Fr L w w138:=(G116.trans (Fr.ext F126)).stp F138 (upc (.inr m127) (fun m hm=>by cases hm))
     have G141:Fr L w19 w138:=G134.stp F138 (upc (.inr m128) (fun m hm=>by cases hm))
     have G142:Fr L w21 w138:=(((G91.trans (Fr.ext F93)).trans (Fr.ext F109)).trans (Fr.ext F126)).stp F138 (upc (.inr m129) (fun m hm=>by cases hm))
     have G143:Fr L w25 w138:=((G99.trans (Fr.ext F109)).trans (Fr.ext F126)).stp F138 (upc (.inr m130) (fun m hm=>by cases hm))
     have G144:Fr L w109 w138:=G137.stp F138 (upc (.inr m131) (fun m hm=>by cases hm))
     have B138':Blk w138 b126 _ (cArena x109.1 A120 c121 A123 c124):=B138
     refine o_w (v:=.int .i64 x109.2.1) (r_asg rfl) ?_
     refine o_w (v:=.int .i64 x109.2.2) (r_asg rfl) ?_
     refine eo_nil_sq ?_
     iterate 2 refine ec_seq ?_
     refine ec_region ?_
     refine o_w (v:=.int .i64 x109.2.2) (r_mov rfl) ?_
     refine o_w (v:=.bool (decide ((0:Int)<x109.2.2))) (r_int rfl rfl rfl) ?_
     refine eo_nil_sq ?_
     refine ec_cond rfl (fun hc145=>?_) (fun hc145=>?_)
     ·replace h:=h.1 hc145
      refine ec_seq ?_
      refine ec_region ?_
      iterate 2 refine o_w (v:=.bool (worksV)) (r_mov rfl) ?_
      refine o_v (v:=.agg (cArena d0 A1 c2 A4 c5).toArray) (r_lda agg_api_Arena rfl (vs:=(cArena d0 A1 c2 A4 c5)) rfl ((S19.fr G141 (fun _ h=>h)).now.part (n:=3) rfl)) (want_t (t:=69) rfl rfl (of_not hc36)) rfl rfl ?_
      refine o_v (v:=.agg (cArena x109.1 A120 c121 A123 c124).toArray) (r_lda agg_api_Arena rfl (vs:=(cArena x109.1 A120 c121 A123 c124)) rfl (B138'.part (n:=3) rfl)) (want_t (t:=69) rfl rfl (of_not hc36)) rfl rfl ?_
      obtain ⟨ha147,h⟩:=h
      obtain ⟨ha148,h⟩:=h
      refine o_call cf_arena_Below rfl (arena_Below_c d0 (kArena_mk (d:=d0) (H3.up G140 (fun _ h=>h) (upc (.inr m127) (fun _ h=>.inl h))) (H6.up G140 (fun _ h=>h) (upc (.inr m127) (fun _ h=>.inl h)))) x109.1 (kArena_mk (d:=x109.1) (H122.up G144 (fun _ h=>h) (upc (.inr m131) (fun _ h=>.inl h))) (H125.up G144 (fun _ h=>h) (upc (.inr m131) (fun _ h=>.inl h)))) ((hL.fr E139).cons B138'.lt) (arBelow_ev d0 x109.1 ha147 ha148)) (want_t (t:=69) rfl rfl (of_not hc36)) rfl ?_
      rintro _ w146 ⟨F146,rfl⟩
      have E149:=E139.trans F146
      refine o_w (v:=.bool (belowA d0 x109.1)) (r_pickT rfl (of_not hc36) rfl) ?_
      refine o_w (v:=.bool (belowA d0 x109.1)) (r_asg rfl) ?_
      refine eo_nil_sq ?_
      refine ec_ret ?_
      refine sq_ret ?_
      subst h
      exact (end1 rfl ⟨_,rfl,E149,rfl⟩)
     ·replace h:=h.2 hc145
      refine ec_skip ?_
      refine sq_n ?_
      refine ec_seq ?_
      refine ec_region ?_
      refine o_w (v:=.agg (cArena d0 A1 c2 A4 c5).toArray) (r_lda agg_api_Arena rfl (vs:=(cArena d0 A1 c2 A4 c5)) rfl ((S19.fr G141 (fun _ h=>h)).now.part (n:=3) rfl)) ?_
      refine o_w (v:=.agg (cArena d2 A13 c14 A16 c17).toArray) (r_lda agg_api_Arena rfl (vs:=(cArena d2 A13 c14 A16 c17)) rfl ((S25.fr G143 (fun _ h=>h)).now.part (n:=3) rfl)) ?_
      obtain ⟨ha158,h⟩:=h
      obtain ⟨ha159,h⟩:=h
      refine o_call cf_arena_Below rfl (arena_Below_c d0 (kArena_mk (d:=d0) (H3.up G140 (fun _ h=>h) (upc (.inr m127) (fun _ h=>.inl h))) (H6.up G140 (fun _ h=>h) (upc (.inr m127) (fun _ h=>.inl h)))) d2 (kArena_mk (d:=d2) (H15.up G140 (fun _ h=>h) (upc (.inr m127) (fun _ h=>.inl h))) (H18.up G140 (fun _ h=>h) (upc (.inr m127) (fun _ h=>.inl h)))) ((hL.fr E139).cons B138'.lt) (arBelow_ev d0 d2 ha158 ha159)) rfl rfl ?_
      rintro _ w157 ⟨F157,rfl⟩
      have E160:=E139.trans F157
      refine o_w (v:=.bool (belowA d0 d2)) (r_mov rfl) ?_
      refine o_vg (v:=.agg (cArena d1 A7 c8 A10 c11).toArray) (want_ct (t:=77) rfl rfl) (fun hk=>(r_lda agg_api_Arena rfl (vs:=(cArena d1 A7 c8 A10 c11)) rfl ((S21.fr (G142.trans (Fr.ext F157)) (fun _ h=>h)).now.part (n:=3) rfl))) rfl rfl ?_
      refine o_vg (v:=.agg (cArena d2 A13 c14 A16 c17).toArray) (want_ct (t:=77) rfl rfl) (fun hk=>(r_lda agg_api_Arena rfl (vs:=(cArena d2 A13 c14 A16 c17)) rfl ((S25.fr (G143.trans (Fr.ext F157)) (fun _ h=>h)).now.part (n:=3) rfl))) rfl rfl ?_
      obtain ⟨ha168,h⟩:=h
      obtain ⟨ha169,h⟩:=h
      refine o_callg (V:=.bool (belowA d1 d2)) cf_arena_Below (want_ct (t:=77) rfl rfl) (fun hk=>(mapv2 (gdT hk) (gdT hk))) (fun hk=>(arena_Below_c d1 (kArena_mk (d:=d1) (H9.up (G140.trans (Fr.ext F157)) (fun _ h=>h) (upc (.inr m127) (fun _ h=>.inl h))) (H12.up (G140.trans (Fr.ext F157)) (fun _ h=>h) (upc (.inr m127) (fun _ h=>.inl h)))) d2 (kArena_mk (d:=d2) (H15.up (G140.trans (Fr.ext F157)) (fun _ h=>h) (upc (.inr m127) (fun _ h=>.inl h))) (H18.up (G140.trans (Fr.ext F157)) (fun _ h=>h) (upc (.inr m127) (fun _ h=>.inl h)))) ((hL.fr E160).cons (B138'.ex F157).lt) (arBelow_ev d1 d2 (ha168 hk) (ha169 hk)))) rfl ?_
      intro w167 F167
      have E170:=E160.trans F167
      refine o_w (v:=.bool ((belowA d0 d2)&&(belowA d1 d2))) (r_pickAnd rfl (fun ht=>(gdT ht)) rfl) ?_
      refine o_w (v:=.bool ((belowA d0 d2)&&(belowA d1 d2))) (r_asg rfl) ?_
      refine eo_nil_sq ?_
      refine ec_seq ?_
      refine ec_region ?_
      iterate 2 refine o_w (v:=.bool (worksV)) (r_mov rfl) ?_
      refine o_v (v:=.agg (cArena d0 A1 c2 A4 c5).toArray) (r_lda agg_api_Arena rfl (vs:=(cArena d0 A1 c2 A4 c5)) rfl ((S19.fr ((G141.trans (Fr.ext F157)).trans (Fr.ext F167)) (fun _ h=>h)).now.part (n:=3) rfl)) (want_t (t:=83) rfl rfl (of_not hc36)) rfl rfl ?_
      refine o_v (v:=.agg (cArena x109.1 A120 c121 A123 c124).toArray) (r_lda agg_api_Arena rfl (vs:=(cArena x109.1 A120 c121 A123 c124)) rfl (((B138'.ex F157).ex F167).part (n:=3) rfl)) (want_t (t:=83) rfl rfl (of_not hc36)) rfl rfl ?_
      obtain ⟨ha181,h⟩:=h
      obtain ⟨ha182,h⟩:=h
      refine o_call cf_arena_Below rfl (arena_Below_c d0 (kArena_mk (d:=d0) (H3.up ((G140.trans (Fr.ext F157)).trans (Fr.ext F167)) (fun _ h=>h) (upc (.inr m127) (fun _ h=>.inl h))) (H6.up ((G140.trans (Fr.ext F157)).trans (Fr.ext F167)) (fun _ h=>h) (upc (.inr m127) (fun _ h=>.inl h)))) x109.1 (kArena_mk (d:=x109.1) (H122.up ((G144.trans (Fr.ext F157)).trans (Fr.ext F167)) (fun _ h=>h) (upc (.inr m131) (fun _ h=>.inl h))) (H125.up ((G144.trans (Fr.ext F157)).trans (Fr.ext F167)) (fun _ h=>h) (upc (.inr m131) (fun _ h=>.inl h)))) ((hL.fr E170).cons ((B138'.ex F157).ex F167).lt) (arBelow_ev d0 x109.1 ha181 ha182)) (want_t (t:=83) rfl rfl (of_not hc36)) rfl ?_
      rintro _ w180 ⟨F180,rfl⟩
      have E183:=E170.trans F180
      have G184:=((G140.trans (Fr.ext F157)).trans (Fr.ext F167)).trans (Fr.ext F180)
      have G185:=((G141.trans (Fr.ext F157)).trans (Fr.ext F167)).trans (Fr.ext F180)
      have G186:=((G142.trans (Fr.ext F157)).trans (Fr.ext F167)).trans (Fr.ext F180)
      have G187:=((G143.trans (Fr.ext F157)).trans (Fr.ext F167)).trans (Fr.ext F180)
      have G188:=((G144.trans (Fr.ext F157)).trans (Fr.ext F167)).trans (Fr.ext F180)
      refine o_w (v:=.bool (belowA d0 x109.1)) (r_pickT rfl (of_not hc36) rfl) ?_
      refine o_w (v:=.bool (belowA d0 x109.1)) (r_mov rfl) ?_
      refine o_vg (v:=.agg (cArena d1 A7 c8 A10 c11).toArray) (want_ct (t:=88) rfl rfl) (fun hk=>(r_lda agg_api_Arena rfl (vs:=(cArena d1 A7 c8 A10 c11)) rfl ((S21.fr G186 (fun _ h=>h)).now.part (n:=3) rfl))) rfl rfl ?_
      refine o_vg (v:=.agg (cArena x109.1 A120 c121 A123 c124).toArray) (want_ct (t:=88) rfl rfl) (fun hk=>(r_lda agg_api_Arena rfl (vs:=(cArena x109.1 A120 c121 A123 c124)) rfl ((((B138'.ex F157).ex F167).ex F180).part (n:=3) rfl))) rfl rfl ?_
      obtain ⟨ha191,h⟩:=h
      obtain ⟨ha192,h⟩:=h
      refine o_callg (V:=.bool (belowA d1 x109.1)) cf_arena_Below (want_ct (t:=88) rfl rfl) (fun hk=>(mapv2 (gdT hk) (gdT hk))) (fun hk=>(arena_Below_c d1 (kArena_mk (d:=d1) (H9.up G184 (fun _ h=>h) (upc (.inr m127) (fun _ h=>.inl h))) (H12.up G184 (fun _ h=>h) (upc (.inr m127) (fun _ h=>.inl h)))) x109.1 (kArena_mk (d:=x109.1) (H122.up G188 (fun _ h=>h) (upc (.inr m131) (fun _ h=>.inl h))) (H125.up G188 (fun _ h=>h) (upc (.inr m131) (fun _ h=>.inl h)))) ((hL.fr E183).cons (((B138'.ex F157).ex F167).ex F180).lt) (arBelow_ev d1 x109.1 (ha191 hk) (ha192 hk)))) rfl ?_
      intro w190 F190
      have E193:=E183.trans F190
      refine o_w (v:=.bool ((belowA d0 x109.1)&&(belowA d1 x109.1))) (r_pickAnd rfl (fun ht=>(gdT ht)) rfl) ?_
      refine o_w (v:=.bool ((belowA d0 x109.1)&&(belowA d1 x109.1))) (r_mov rfl) ?_
      refine o_vg (v:=.bool ((belowA d0 d2)&&(belowA d1 d2))) (want_ct (t:=93) rfl rfl) (fun hk=>(r_mov rfl)) rfl rfl ?_
      refine o_vg (v:=.bool (!((belowA d0 d2)&&(belowA d1 d2)))) (want_ct (t:=93) rfl rfl) (fun hk=>(r_not (gdT hk))) rfl rfl ?_
      refine o_vg (v:=.bool (!((belowA d0 d2)&&(belowA d1 d2)))) (want_ct (t:=93) rfl rfl) (fun hk=>(r_mov (gdT hk))) rfl rfl ?_
      refine o_vg (v:=.agg (cArena x109.1 A120 c121 A123 c124).toArray) (want_gf (t:=96) rfl rfl) (fun hk=>(r_lda agg_api_Arena rfl (vs:=(cArena x109.1 A120 c121 A123 c124)) rfl (((((B138'.ex F157).ex F167).ex F180).ex F190).part (n:=3) rfl))) rfl rfl ?_
      refine o_vg (v:=.agg (cArena d2 A13 c14 A16 c17).toArray) (want_gf (t:=96) rfl rfl) (fun hk=>(r_lda agg_api_Arena rfl (vs:=(cArena d2 A13 c14 A16 c17)) rfl ((S25.fr (G187.trans (Fr.ext F190)) (fun _ h=>h)).now.part (n:=3) rfl))) rfl rfl ?_
      obtain ⟨ha201,h⟩:=h
      obtain ⟨ha202,h⟩:=h
      refine o_callg (V:=.bool (belowA x109.1 d2)) cf_arena_Below (want_gf (t:=96) rfl rfl) (fun hk=>(mapv2 (gdT hk) (gdT hk))) (fun hk=>(arena_Below_c x109.1 (kArena_mk (d:=x109.1) (H122.up (G188.trans (Fr.ext F190)) (fun _ h=>h) (upc (.inr m131) (fun _ h=>.inl h))) (H125.up (G188.trans (Fr.ext F190)) (fun _ h=>h) (upc (.inr m131) (fun _ h=>.inl h)))) d2 (kArena_mk (d:=d2) (H15.up (G184.trans (Fr.ext F190)) (fun _ h=>h) (upc (.inr m127) (fun _ h=>.inl h))) (H18.up (G184.trans (Fr.ext F190)) (fun _ h=>h) (upc (.inr m127) (fun _ h=>.inl h)))) ((hL.fr E193).cons ((((B138'.ex F157).ex F167).ex F180).ex F190).lt) (arBelow_ev x109.1 d2 (ha201 hk) (ha202 hk)))) rfl ?_
      intro w200 F200
      have E203:=E193.trans F200
      refine o_vg (v:=.bool ((!((belowA d0 d2)&&(belowA d1 d2)))||(belowA x109.1 d2))) (want_ct (t:=93) rfl rfl) (fun hk=>(r_pickOr (gdT hk) rfl (fun hf=>(gdT (andM hk (notT hf)))))) rfl rfl ?_
      refine o_w (v:=.bool (((belowA d0 x109.1)&&(belowA d1 x109.1))&&((!((belowA d0 d2)&&(belowA d1 d2)))||(belowA x109.1 d2)))) (r_pickAnd rfl (fun ht=>(gdT ht)) rfl) ?_
      refine o_w (v:=.bool (((belowA d0 x109.1)&&(belowA d1 x109.1))&&((!((belowA d0 d2)&&(belowA d1 d2)))||(belowA x109.1 d2)))) (r_mov rfl) ?_
      iterate 2 refine o_vg (v:=.agg (cArena d0 A1 c2 A4 c5).toArray) (want_ct (t:=102) rfl rfl) (fun hk=>(r_lda agg_api_Arena rfl (vs:=(cArena d0 A1 c2 A4 c5)) rfl ((S19.fr ((G185.trans (Fr.ext F190)).trans (Fr.ext F200)) (fun _ h=>h)).now.part (n:=3) rfl))) rfl rfl ?_
      obtain ⟨ha211,h⟩:=h
      obtain ⟨ha212,h⟩:=h
      refine o_callg (V:=.bool (belowA d0 d0)) cf_arena_Below (want_ct (t:=102) rfl rfl) (fun hk=>(mapv2 (gdT hk) (gdT hk))) (fun hk=>(arena_Below_c d0 (kArena_mk (d:=d0) (H3.up ((G184.trans (Fr.ext F190)).trans (Fr.ext F200)) (fun _ h=>h) (upc (.inr m127) (fun _ h=>.inl h))) (H6.up ((G184.trans (Fr.ext F190)).trans (Fr.ext F200)) (fun _ h=>h) (upc (.inr m127) (fun _ h=>.inl h)))) d0 (kArena_mk (d:=d0) (H3.up ((G184.trans (Fr.ext F190)).trans (Fr.ext F200)) (fun _ h=>h) (upc (.inr m127) (fun _ h=>.inl h))) (H6.up ((G184.trans (Fr.ext F190)).trans (Fr.ext F200)) (fun _ h=>h) (upc (.inr m127) (fun _ h=>.inl h)))) ((hL.fr E203).cons (((((B138'.ex F157).ex F167).ex F180).ex F190).ex F200).lt) (arBelow_ev d0 d0 (ha211 hk) (ha212 hk)))) rfl ?_
      intro w210 F210
      have E213:=E203.trans F210
      refine o_w (v:=.bool ((((belowA d0 x109.1)&&(belowA d1 x109.1))&&((!((belowA d0 d2)&&(belowA d1 d2)))||(belowA x109.1 d2)))&&(belowA d0 d0))) (r_pickAnd rfl (fun ht=>(gdT ht)) rfl) ?_
      refine o_w (v:=.bool ((((belowA d0 x109.1)&&(belowA d1 x109.1))&&((!((belowA d0 d2)&&(belowA d1 d2)))||(belowA x109.1 d2)))&&(belowA d0 d0))) (r_asg rfl) ?_
      refine eo_nil_sq ?_
      refine ec_ret ?_
      subst h
      exact (end1 rfl ⟨_,rfl,E213,rfl⟩)
end Go.Proofs.Ythifkdgljapmeaa
