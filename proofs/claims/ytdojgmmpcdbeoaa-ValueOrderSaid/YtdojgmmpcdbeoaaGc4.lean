/- The law ValueOrder: what it comes to. -/
import Derived.Test.YtdojgmmpcdbeoaaGb
namespace Go.Proofs.Ytdojgmmpcdbeoaa
open Go Go.RowKit
set_option linter.unusedVariables false
set_option linter.unusedSimpArgs false
def law06_ValueOrder_raw (d0 : Val) (d1 : Val) (d2 : Val) (y : Bool) : Prop :=
  ((!(worksV)) = true → (y = false)) ∧ ((!(worksV)) = false → (((!(((fewV d0) && (fewV d1)) && (fewV d2))) = true → (y = (worksV))) ∧ ((!(((fewV d0) && (fewV d1)) && (fewV d2))) = false → ((sm d0) ∧ ((sm d1) ∧ ((sm d1) ∧ ((sm d0) ∧ ((sm d1) ∧ ((sm d2) ∧ ((((belowV d0 d1) && (belowV d1 d2)) = true → sm d0) ∧ ((((belowV d0 d1) && (belowV d1 d2)) = true → sm d2) ∧ ((((!(((belowV d0 d1) && (belowV d1 d2)) && (!(belowV d0 d2)))) && ((belowV d0 d1) && (belowV d1 d0))) = true → sm d0) ∧ ((((((belowV d0 d1) && (belowV d1 d2)) && (!(belowV d0 d2))) || (((belowV d0 d1) && (belowV d1 d0)) && (!(sameV d0 d1)))) = true → (y = false)) ∧ (((((belowV d0 d1) && (belowV d1 d2)) && (!(belowV d0 d2))) || (((belowV d0 d1) && (belowV d1 d0)) && (!(sameV d0 d1)))) = false → (((!((d0.kind != (1 : Int)) || (d1.kind != (1 : Int)))) = true → sm d0) ∧ (((!(((d0.kind != (1 : Int)) || (d1.kind != (1 : Int))) || ((checkV d0) != (0 : Int)))) = true → sm d1) ∧ ((((((d0.kind != (1 : Int)) || (d1.kind != (1 : Int))) || ((checkV d0) != (0 : Int))) || ((checkV d1) != (0 : Int))) = true → (y = (worksV))) ∧ (((((d0.kind != (1 : Int)) || (d1.kind != (1 : Int))) || ((checkV d0) != (0 : Int))) || ((checkV d1) != (0 : Int))) = false → ((sm d0) ∧ ((sm d1) ∧ (∃ x117, x117 = (joinV d0 d1) ∧ (((((belowV d0 d1) || (belowV d1 d0)) && (x117.2 == (0 : Int))) = true → sm x117.1) ∧ ((((((belowV d0 d1) || (belowV d1 d0)) && (x117.2 == (0 : Int))) && (!(sameV x117.1 d0))) = true → sm x117.1) ∧ (y = ((((belowV d0 d1) || (belowV d1 d0)) && (x117.2 == (0 : Int))) && ((sameV x117.1 d0) || (sameV x117.1 d1)))))))))))))))))))))))))))
set_option maxRecDepth 20000 in
set_option maxHeartbeats 4000000 in
theorem law06_ValueOrder_c {L : List Nat} {w : World} {csP0 : List Value} (d0 : Val) (HP0 : Stb L w (fun w => kVal.r w csP0 d0)) {csP1 : List Value} (d1 : Val) (HP1 : Stb L w (fun w => kVal.r w csP1 d1)) {csP2 : List Value} (d2 : Val) (HP2 : Stb L w (fun w => kVal.r w csP2 d2)) (hL : Lt L w) {y : Bool} (h : law06_ValueOrder_raw d0 d1 d2 y) :
    Calls Try.prog 6 [.agg csP0.toArray, .agg csP1.toArray, .agg csP2.toArray].toArray w (Ret fun v w' => Ext w w' ∧ v = .bool y) := by
  obtain ⟨A1, c2, A4, c5, rfl, H3, H6⟩ := kVal_open HP0
  obtain ⟨A7, c8, A10, c11, rfl, H9, H12⟩ := kVal_open HP1
  obtain ⟨A13, c14, A16, c17, rfl, H15, H18⟩ := kVal_open HP2
  unfold law06_ValueOrder_raw at h
  refine calls_ec Try.func6 rfl rfl rfl ?_
  refine ec_seq ?_
  refine ec_region ?_
  refine o_box (cs := (cVal d0 A1 c2 A4 c5)) rfl rfl rfl ?_
  intro b19 w19 e19 F19 B19
  have S19 := B19.stb (nin hL e19)
  have G20 : Fr L w w19 := Fr.ext F19
  refine o_box (cs := (cVal d1 A7 c8 A10 c11)) rfl rfl rfl ?_
  intro b21 w21 e21 F21 B21
  have S21 := B21.stb (nin (hL.fr F19) e21)
  have E22 := F19.trans F21
  have G24 : Fr L w19 w21 := Fr.ext F21
  refine o_box (cs := (cVal d2 A13 c14 A16 c17)) rfl rfl rfl ?_
  intro b25 w25 e25 F25 B25
  have S25 := B25.stb (nin (hL.fr E22) e25)
  have E26 := E22.trans F25
  have G29 : Fr L w21 w25 := Fr.ext F25
  refine o_v (v := .bool false) (r_asg rfl) rfl rfl rfl ?_
  refine eo_nil_sq ?_
  refine ec_seq ?_
  refine ec_region ?_
  refine o_call cf_law06_works rfl (law06_works_c (hL.fr E26) (works_ev)) rfl rfl ?_
  rintro _ w30 ⟨F30, rfl⟩
  have E31 := E26.trans F30
  have G35 : Fr L w25 w30 := Fr.ext F30
  refine o_v (v := .bool (worksV)) (r_asg rfl) rfl rfl rfl ?_
  refine eo_nil_sq ?_
  refine ec_seq ?_
  refine ec_seq ?_
  refine ec_region ?_
  refine o_v (v := .bool (worksV)) (r_mov rfl) rfl rfl rfl ?_
  refine o_v (v := .bool (!(worksV))) (r_not rfl) rfl rfl rfl ?_
  refine eo_nil_sq ?_
  refine ec_cond rfl (fun hc36 => ?_) (fun hc36 => ?_)
  · replace h := h.1 hc36
    refine ec_seq ?_
    refine ec_region ?_
    refine o_v (v := .bool false) (r_asg rfl) rfl rfl rfl ?_
    refine eo_nil_sq ?_
    refine ec_ret ?_
    refine sq_ret ?_
    subst h
    exact (end1 rfl ⟨_, rfl, E31, rfl⟩)
  · replace h := h.2 hc36
    refine ec_skip ?_
    refine sq_n ?_
    refine ec_seq ?_
    refine ec_region ?_
    refine o_v (v := .agg (cVal d0 A1 c2 A4 c5).toArray) (r_lda agg_api_Value rfl (vs := (cVal d0 A1 c2 A4 c5)) rfl ((S19.fr ((G24.trans (Fr.ext F25)).trans (Fr.ext F30)) (fun _ h => h)).now.part (n := 8) rfl)) rfl rfl rfl ?_
    refine o_call cf_law06_Few rfl (law06_Few_c d0 (kVal_mk (d := d0) (H3.fr (((G20.trans (Fr.ext F21)).trans (Fr.ext F25)).trans (Fr.ext F30)) (fun _ h => h)) (H6.fr (((G20.trans (Fr.ext F21)).trans (Fr.ext F25)).trans (Fr.ext F30)) (fun _ h => h))) (hL.fr E31) (few_ev d0)) rfl rfl ?_
    rintro _ w39 ⟨F39, rfl⟩
    have E40 := E31.trans F39
    have G41 := (((G20.trans (Fr.ext F21)).trans (Fr.ext F25)).trans (Fr.ext F30)).trans (Fr.ext F39)
    refine o_v (v := .bool (fewV d0)) (r_mov rfl) rfl rfl rfl ?_
    refine o_vg (v := .agg (cVal d1 A7 c8 A10 c11).toArray) (want_ct (t := 19) rfl rfl) (fun hk => (r_lda agg_api_Value rfl (vs := (cVal d1 A7 c8 A10 c11)) rfl ((S21.fr ((G29.trans (Fr.ext F30)).trans (Fr.ext F39)) (fun _ h => h)).now.part (n := 8) rfl))) rfl rfl ?_
    refine o_callg (V := .bool (fewV d1)) cf_law06_Few (want_ct (t := 19) rfl rfl) (fun hk => (mapv1 (gdT hk))) (fun hk => (law06_Few_c d1 (kVal_mk (d := d1) (H9.fr G41 (fun _ h => h)) (H12.fr G41 (fun _ h => h))) (hL.fr E40) (few_ev d1))) rfl ?_
    intro w45 F45
    have E46 := E40.trans F45
    have G48 := (((G24.trans (Fr.ext F25)).trans (Fr.ext F30)).trans (Fr.ext F39)).trans (Fr.ext F45)
    refine o_v (v := .bool ((fewV d0) && (fewV d1))) (r_pickAnd rfl (fun ht => (gdT ht)) rfl) rfl rfl rfl ?_
    refine o_v (v := .bool ((fewV d0) && (fewV d1))) (r_mov rfl) rfl rfl rfl ?_
    refine o_vg (v := .agg (cVal d2 A13 c14 A16 c17).toArray) (want_ct (t := 23) rfl rfl) (fun hk => (r_lda agg_api_Value rfl (vs := (cVal d2 A13 c14 A16 c17)) rfl ((S25.fr ((G35.trans (Fr.ext F39)).trans (Fr.ext F45)) (fun _ h => h)).now.part (n := 8) rfl))) rfl rfl ?_
    refine o_callg (V := .bool (fewV d2)) cf_law06_Few (want_ct (t := 23) rfl rfl) (fun hk => (mapv1 (gdT hk))) (fun hk => (law06_Few_c d2 (kVal_mk (d := d2) (H15.fr (G41.trans (Fr.ext F45)) (fun _ h => h)) (H18.fr (G41.trans (Fr.ext F45)) (fun _ h => h))) (hL.fr E46) (few_ev d2))) rfl ?_
    intro w51 F51
    have E52 := E46.trans F51
    have G55 := (((G29.trans (Fr.ext F30)).trans (Fr.ext F39)).trans (Fr.ext F45)).trans (Fr.ext F51)
    refine o_v (v := .bool (((fewV d0) && (fewV d1)) && (fewV d2))) (r_pickAnd rfl (fun ht => (gdT ht)) rfl) rfl rfl rfl ?_
    refine o_v (v := .bool (((fewV d0) && (fewV d1)) && (fewV d2))) (r_asg rfl) rfl rfl rfl ?_
    refine eo_nil_sq ?_
    refine ec_seq ?_
    refine ec_seq ?_
    refine ec_region ?_
    refine o_v (v := .bool (((fewV d0) && (fewV d1)) && (fewV d2))) (r_mov rfl) rfl rfl rfl ?_
    refine o_v (v := .bool (!(((fewV d0) && (fewV d1)) && (fewV d2)))) (r_not rfl) rfl rfl rfl ?_
    refine eo_nil_sq ?_
    refine ec_cond rfl (fun hc57 => ?_) (fun hc57 => ?_)
    · replace h := h.1 hc57
      refine ec_seq ?_
      refine ec_region ?_
      refine o_v (v := .bool (worksV)) (r_mov rfl) rfl rfl rfl ?_
      refine o_v (v := .bool (worksV)) (r_asg rfl) rfl rfl rfl ?_
      refine eo_nil_sq ?_
      refine ec_ret ?_
      refine sq_ret ?_
      subst h
      exact (end1 rfl ⟨_, rfl, E52, rfl⟩)
    · replace h := h.2 hc57
      refine ec_skip ?_
      refine sq_n ?_
      refine ec_seq ?_
      refine ec_region ?_
      refine o_v (v := .agg (cVal d0 A1 c2 A4 c5).toArray) (r_lda agg_api_Value rfl (vs := (cVal d0 A1 c2 A4 c5)) rfl ((S19.fr (G48.trans (Fr.ext F51)) (fun _ h => h)).now.part (n := 8) rfl)) rfl rfl rfl ?_
      refine o_v (v := .agg (cVal d1 A7 c8 A10 c11).toArray) (r_lda agg_api_Value rfl (vs := (cVal d1 A7 c8 A10 c11)) rfl ((S21.fr G55 (fun _ h => h)).now.part (n := 8) rfl)) rfl rfl rfl ?_
      obtain ⟨ha59, h⟩ := h
      obtain ⟨ha60, h⟩ := h
      refine o_call cf_value_Below rfl (value_Below_c d0 (kVal_mk (d := d0) (H3.fr ((G41.trans (Fr.ext F45)).trans (Fr.ext F51)) (fun _ h => h)) (H6.fr ((G41.trans (Fr.ext F45)).trans (Fr.ext F51)) (fun _ h => h))) d1 (kVal_mk (d := d1) (H9.fr ((G41.trans (Fr.ext F45)).trans (Fr.ext F51)) (fun _ h => h)) (H12.fr ((G41.trans (Fr.ext F45)).trans (Fr.ext F51)) (fun _ h => h))) (hL.fr E52) (valBelow_ev d0 d1 ha59 ha60)) rfl rfl ?_
      rintro _ w58 ⟨F58, rfl⟩
      have E61 := E52.trans F58
      have G65 := (((G35.trans (Fr.ext F39)).trans (Fr.ext F45)).trans (Fr.ext F51)).trans (Fr.ext F58)
      refine o_v (v := .bool (belowV d0 d1)) (r_asg rfl) rfl rfl rfl ?_
      refine eo_nil_sq ?_
      refine ec_seq ?_
      refine ec_region ?_
      refine o_v (v := .agg (cVal d1 A7 c8 A10 c11).toArray) (r_lda agg_api_Value rfl (vs := (cVal d1 A7 c8 A10 c11)) rfl ((S21.fr (G55.trans (Fr.ext F58)) (fun _ h => h)).now.part (n := 8) rfl)) rfl rfl rfl ?_
      refine o_v (v := .agg (cVal d0 A1 c2 A4 c5).toArray) (r_lda agg_api_Value rfl (vs := (cVal d0 A1 c2 A4 c5)) rfl ((S19.fr ((G48.trans (Fr.ext F51)).trans (Fr.ext F58)) (fun _ h => h)).now.part (n := 8) rfl)) rfl rfl rfl ?_
      obtain ⟨ha67, h⟩ := h
      obtain ⟨ha68, h⟩ := h
      refine o_call cf_value_Below rfl (value_Below_c d1 (kVal_mk (d := d1) (H9.fr (((G41.trans (Fr.ext F45)).trans (Fr.ext F51)).trans (Fr.ext F58)) (fun _ h => h)) (H12.fr (((G41.trans (Fr.ext F45)).trans (Fr.ext F51)).trans (Fr.ext F58)) (fun _ h => h))) d0 (kVal_mk (d := d0) (H3.fr (((G41.trans (Fr.ext F45)).trans (Fr.ext F51)).trans (Fr.ext F58)) (fun _ h => h)) (H6.fr (((G41.trans (Fr.ext F45)).trans (Fr.ext F51)).trans (Fr.ext F58)) (fun _ h => h))) (hL.fr E61) (valBelow_ev d1 d0 ha67 ha68)) rfl rfl ?_
      rintro _ w66 ⟨F66, rfl⟩
      have E69 := E61.trans F66
      have G70 := (((G41.trans (Fr.ext F45)).trans (Fr.ext F51)).trans (Fr.ext F58)).trans (Fr.ext F66)
      refine o_v (v := .bool (belowV d1 d0)) (r_asg rfl) rfl rfl rfl ?_
      refine eo_nil_sq ?_
      refine ec_seq ?_
      refine ec_region ?_
      refine o_v (v := .agg (cVal d1 A7 c8 A10 c11).toArray) (r_lda agg_api_Value rfl (vs := (cVal d1 A7 c8 A10 c11)) rfl ((S21.fr ((G55.trans (Fr.ext F58)).trans (Fr.ext F66)) (fun _ h => h)).now.part (n := 8) rfl)) rfl rfl rfl ?_
      refine o_v (v := .agg (cVal d2 A13 c14 A16 c17).toArray) (r_lda agg_api_Value rfl (vs := (cVal d2 A13 c14 A16 c17)) rfl ((S25.fr (G65.trans (Fr.ext F66)) (fun _ h => h)).now.part (n := 8) rfl)) rfl rfl rfl ?_
      obtain ⟨ha75, h⟩ := h
      obtain ⟨ha76, h⟩ := h
      refine o_call cf_value_Below rfl (value_Below_c d1 (kVal_mk (d := d1) (H9.fr G70 (fun _ h => h)) (H12.fr G70 (fun _ h => h))) d2 (kVal_mk (d := d2) (H15.fr G70 (fun _ h => h)) (H18.fr G70 (fun _ h => h))) (hL.fr E69) (valBelow_ev d1 d2 ha75 ha76)) rfl rfl ?_
      rintro _ w74 ⟨F74, rfl⟩
      have E77 := E69.trans F74
      have G79 := (((G48.trans (Fr.ext F51)).trans (Fr.ext F58)).trans (Fr.ext F66)).trans (Fr.ext F74)
      refine o_v (v := .bool (belowV d1 d2)) (r_asg rfl) rfl rfl rfl ?_
      refine eo_nil_sq ?_
      refine ec_seq ?_
      refine ec_seq ?_
      refine ec_region ?_
      refine o_v (v := .bool (belowV d0 d1)) (r_mov rfl) rfl rfl rfl ?_
      refine o_v (v := .bool (belowV d0 d1)) (r_mov rfl) rfl rfl rfl ?_
      refine o_vg (v := .bool (belowV d1 d2)) (want_ct (t := 40) rfl rfl) (fun hk => (r_mov rfl)) rfl rfl ?_
      refine o_v (v := .bool ((belowV d0 d1) && (belowV d1 d2))) (r_pickAnd rfl (fun ht => (gdT ht)) rfl) rfl rfl rfl ?_
      refine o_v (v := .bool ((belowV d0 d1) && (belowV d1 d2))) (r_mov rfl) rfl rfl rfl ?_
      refine o_vg (v := .agg (cVal d0 A1 c2 A4 c5).toArray) (want_ct (t := 43) rfl rfl) (fun hk => (r_lda agg_api_Value rfl (vs := (cVal d0 A1 c2 A4 c5)) rfl ((S19.fr G79 (fun _ h => h)).now.part (n := 8) rfl))) rfl rfl ?_
      refine o_vg (v := .agg (cVal d2 A13 c14 A16 c17).toArray) (want_ct (t := 43) rfl rfl) (fun hk => (r_lda agg_api_Value rfl (vs := (cVal d2 A13 c14 A16 c17)) rfl ((S25.fr ((G65.trans (Fr.ext F66)).trans (Fr.ext F74)) (fun _ h => h)).now.part (n := 8) rfl))) rfl rfl ?_
      obtain ⟨ha85, h⟩ := h
      obtain ⟨ha86, h⟩ := h
      refine o_callg (V := .bool (belowV d0 d2)) cf_value_Below (want_ct (t := 43) rfl rfl) (fun hk => (mapv2 (gdT hk) (gdT hk))) (fun hk => (value_Below_c d0 (kVal_mk (d := d0) (H3.fr (G70.trans (Fr.ext F74)) (fun _ h => h)) (H6.fr (G70.trans (Fr.ext F74)) (fun _ h => h))) d2 (kVal_mk (d := d2) (H15.fr (G70.trans (Fr.ext F74)) (fun _ h => h)) (H18.fr (G70.trans (Fr.ext F74)) (fun _ h => h))) (hL.fr E77) (valBelow_ev d0 d2 (ha85 hk) (ha86 hk)))) rfl ?_
      intro w84 F84
      have E87 := E77.trans F84
      have G90 := (((G55.trans (Fr.ext F58)).trans (Fr.ext F66)).trans (Fr.ext F74)).trans (Fr.ext F84)
      refine o_vg (v := .bool (!(belowV d0 d2))) (want_ct (t := 43) rfl rfl) (fun hk => (r_not (gdT hk))) rfl rfl ?_
      refine o_v (v := .bool (((belowV d0 d1) && (belowV d1 d2)) && (!(belowV d0 d2)))) (r_pickAnd rfl (fun ht => (gdT ht)) rfl) rfl rfl rfl ?_
      refine o_v (v := .bool (((belowV d0 d1) && (belowV d1 d2)) && (!(belowV d0 d2)))) (r_mov rfl) rfl rfl rfl ?_
      refine o_vg (v := .bool (belowV d0 d1)) (want_cf (t := 49) rfl rfl) (fun hk => (r_mov rfl)) rfl rfl ?_
      refine o_vg (v := .bool (belowV d0 d1)) (want_cf (t := 49) rfl rfl) (fun hk => (r_mov (gdT hk))) rfl rfl ?_
      refine o_vg (v := .bool (belowV d1 d0)) (want_gt (t := 51) rfl rfl) (fun hk => (r_mov rfl)) rfl rfl ?_
      refine o_vg (v := .bool ((belowV d0 d1) && (belowV d1 d0))) (want_cf (t := 49) rfl rfl) (fun hk => (r_pickAnd (gdT hk) (fun ht => (gdT (andM hk ht))) rfl)) rfl rfl ?_
      refine o_vg (v := .bool ((belowV d0 d1) && (belowV d1 d0))) (want_cf (t := 49) rfl rfl) (fun hk => (r_mov (gdT hk))) rfl rfl ?_
      refine o_vg (v := .agg (cVal d0 A1 c2 A4 c5).toArray) (want_gt (t := 54) rfl rfl) (fun hk => (r_lda agg_api_Value rfl (vs := (cVal d0 A1 c2 A4 c5)) rfl ((S19.fr (G79.trans (Fr.ext F84)) (fun _ h => h)).now.part (n := 8) rfl))) rfl rfl ?_
      refine o_vg (v := .agg (cVal d1 A7 c8 A10 c11).toArray) (want_gt (t := 54) rfl rfl) (fun hk => (r_lda agg_api_Value rfl (vs := (cVal d1 A7 c8 A10 c11)) rfl ((S21.fr G90 (fun _ h => h)).now.part (n := 8) rfl))) rfl rfl ?_
      obtain ⟨ha93, h⟩ := h
      refine o_callg (V := .bool (sameV d0 d1)) cf_value_Same (want_gt (t := 54) rfl rfl) (fun hk => (mapv2 (gdT hk) (gdT hk))) (fun hk => (value_Same_c d0 (kVal_mk (d := d0) (H3.fr ((G70.trans (Fr.ext F74)).trans (Fr.ext F84)) (fun _ h => h)) (H6.fr ((G70.trans (Fr.ext F74)).trans (Fr.ext F84)) (fun _ h => h))) d1 (kVal_mk (d := d1) (H9.fr ((G70.trans (Fr.ext F74)).trans (Fr.ext F84)) (fun _ h => h)) (H12.fr ((G70.trans (Fr.ext F74)).trans (Fr.ext F84)) (fun _ h => h))) (hL.fr E87) (valSame_ev d0 d1 (ha93 hk)))) rfl ?_
      intro w92 F92
      have E94 := E87.trans F92
      refine o_vg (v := .bool (!(sameV d0 d1))) (want_gt (t := 54) rfl rfl) (fun hk => (r_not (gdT hk))) rfl rfl ?_
      refine o_vg (v := .bool (((belowV d0 d1) && (belowV d1 d0)) && (!(sameV d0 d1)))) (want_cf (t := 49) rfl rfl) (fun hk => (r_pickAnd (gdT hk) (fun ht => (gdT (andM hk ht))) rfl)) rfl rfl ?_
      refine o_v (v := .bool ((((belowV d0 d1) && (belowV d1 d2)) && (!(belowV d0 d2))) || (((belowV d0 d1) && (belowV d1 d0)) && (!(sameV d0 d1))))) (r_pickOr rfl rfl (fun hf => (gdT (notT hf)))) rfl rfl rfl ?_
      refine eo_nil_sq ?_
      refine ec_cond rfl (fun hc99 => ?_) (fun hc99 => ?_)
      · replace h := h.1 hc99
        refine ec_seq ?_
        refine ec_region ?_
        refine o_v (v := .bool false) (r_asg rfl) rfl rfl rfl ?_
        refine eo_nil_sq ?_
        refine ec_ret ?_
        refine sq_ret ?_
        subst h
        exact (end1 rfl ⟨_, rfl, E94, rfl⟩)
      · replace h := h.2 hc99
        refine ec_skip ?_
        refine sq_n ?_
        refine ec_seq ?_
        refine ec_seq ?_
        refine ec_region ?_
        refine o_v (v := .pointer (some ⟨b19, 0, none⟩)) (r_fa fld_api_Value_0 rfl rfl) rfl rfl rfl ?_
        refine o_v (v := .int .i64 d0.kind) (r_ld one_int rfl ((S19.fr ((G79.trans (Fr.ext F84)).trans (Fr.ext F92)) (fun _ h => h)).now.cell rfl)) rfl rfl rfl ?_
        refine o_v (v := .bool (d0.kind != (1 : Int))) (r_int rfl rfl rfl) rfl rfl rfl ?_
        refine o_v (v := .bool (d0.kind != (1 : Int))) (r_mov rfl) rfl rfl rfl ?_
        refine o_vg (v := .pointer (some ⟨b21, 0, none⟩)) (want_cf (t := 64) rfl rfl) (fun hk => (r_fa fld_api_Value_0 rfl rfl)) rfl rfl ?_
        refine o_vg (v := .int .i64 d1.kind) (want_cf (t := 64) rfl rfl) (fun hk => (r_ld one_int (gdT hk) ((S21.fr (G90.trans (Fr.ext F92)) (fun _ h => h)).now.cell rfl))) rfl rfl ?_
        refine o_vg (v := .bool (d1.kind != (1 : Int))) (want_cf (t := 64) rfl rfl) (fun hk => (r_int (gdT hk) rfl rfl)) rfl rfl ?_
        refine o_v (v := .bool ((d0.kind != (1 : Int)) || (d1.kind != (1 : Int)))) (r_pickOr rfl rfl (fun hf => (gdT (notT hf)))) rfl rfl rfl ?_
        refine o_v (v := .bool ((d0.kind != (1 : Int)) || (d1.kind != (1 : Int)))) (r_mov rfl) rfl rfl rfl ?_
        refine o_vg (v := .agg (cVal d0 A1 c2 A4 c5).toArray) (want_cf (t := 69) rfl rfl) (fun hk => (r_lda agg_api_Value rfl (vs := (cVal d0 A1 c2 A4 c5)) rfl ((S19.fr ((G79.trans (Fr.ext F84)).trans (Fr.ext F92)) (fun _ h => h)).now.part (n := 8) rfl))) rfl rfl ?_
        obtain ⟨ha103, h⟩ := h
        refine o_callg (V := .int .i64 (checkV d0)) cf_value_Check (want_cf (t := 69) rfl rfl) (fun hk => (mapv1 (gdT hk))) (fun hk => (value_Check_c d0 (kVal_mk (d := d0) (H3.fr (((G70.trans (Fr.ext F74)).trans (Fr.ext F84)).trans (Fr.ext F92)) (fun _ h => h)) (H6.fr (((G70.trans (Fr.ext F74)).trans (Fr.ext F84)).trans (Fr.ext F92)) (fun _ h => h))) (hL.fr E94) (valCheck_ev d0 (ha103 hk)))) rfl ?_
        intro w102 F102
        have E104 := E94.trans F102
        have G105 := (((G70.trans (Fr.ext F74)).trans (Fr.ext F84)).trans (Fr.ext F92)).trans (Fr.ext F102)
        refine o_vg (v := .bool ((checkV d0) != (0 : Int))) (want_cf (t := 69) rfl rfl) (fun hk => (r_int (gdT hk) rfl rfl)) rfl rfl ?_
        refine o_v (v := .bool (((d0.kind != (1 : Int)) || (d1.kind != (1 : Int))) || ((checkV d0) != (0 : Int)))) (r_pickOr rfl rfl (fun hf => (gdT (notT hf)))) rfl rfl rfl ?_
        refine o_v (v := .bool (((d0.kind != (1 : Int)) || (d1.kind != (1 : Int))) || ((checkV d0) != (0 : Int)))) (r_mov rfl) rfl rfl rfl ?_
        refine o_vg (v := .agg (cVal d1 A7 c8 A10 c11).toArray) (want_cf (t := 74) rfl rfl) (fun hk => (r_lda agg_api_Value rfl (vs := (cVal d1 A7 c8 A10 c11)) rfl ((S21.fr ((G90.trans (Fr.ext F92)).trans (Fr.ext F102)) (fun _ h => h)).now.part (n := 8) rfl))) rfl rfl ?_
        obtain ⟨ha110, h⟩ := h
        refine o_callg (V := .int .i64 (checkV d1)) cf_value_Check (want_cf (t := 74) rfl rfl) (fun hk => (mapv1 (gdT hk))) (fun hk => (value_Check_c d1 (kVal_mk (d := d1) (H9.fr G105 (fun _ h => h)) (H12.fr G105 (fun _ h => h))) (hL.fr E104) (valCheck_ev d1 (ha110 hk)))) rfl ?_
        intro w109 F109
        have E111 := E104.trans F109
        have G113 := (((G79.trans (Fr.ext F84)).trans (Fr.ext F92)).trans (Fr.ext F102)).trans (Fr.ext F109)
        refine o_vg (v := .bool ((checkV d1) != (0 : Int))) (want_cf (t := 74) rfl rfl) (fun hk => (r_int (gdT hk) rfl rfl)) rfl rfl ?_
        refine o_v (v := .bool ((((d0.kind != (1 : Int)) || (d1.kind != (1 : Int))) || ((checkV d0) != (0 : Int))) || ((checkV d1) != (0 : Int)))) (r_pickOr rfl rfl (fun hf => (gdT (notT hf)))) rfl rfl rfl ?_
        refine eo_nil_sq ?_
        refine ec_cond rfl (fun hc116 => ?_) (fun hc116 => ?_)
        · replace h := h.1 hc116
          refine ec_seq ?_
          refine ec_region ?_
          refine o_v (v := .bool (worksV)) (r_mov rfl) rfl rfl rfl ?_
          refine o_v (v := .bool (worksV)) (r_asg rfl) rfl rfl rfl ?_
          refine eo_nil_sq ?_
          refine ec_ret ?_
          refine sq_ret ?_
          subst h
          exact (end1 rfl ⟨_, rfl, E111, rfl⟩)
        · replace h := h.2 hc116
          refine ec_skip ?_
          refine sq_n ?_
          refine ec_seq ?_
          refine ec_region ?_
          refine o_v (v := .agg (cVal d0 A1 c2 A4 c5).toArray) (r_lda agg_api_Value rfl (vs := (cVal d0 A1 c2 A4 c5)) rfl ((S19.fr G113 (fun _ h => h)).now.part (n := 8) rfl)) rfl rfl rfl ?_
          refine o_v (v := .agg (cVal d1 A7 c8 A10 c11).toArray) (r_lda agg_api_Value rfl (vs := (cVal d1 A7 c8 A10 c11)) rfl ((S21.fr (((G90.trans (Fr.ext F92)).trans (Fr.ext F102)).trans (Fr.ext F109)) (fun _ h => h)).now.part (n := 8) rfl)) rfl rfl rfl ?_
          obtain ⟨ha118, h⟩ := h
          obtain ⟨ha119, h⟩ := h
          obtain ⟨x117, hx117, h⟩ := h
          refine o_call cf_value_Join rfl (value_Join_c d0 (kVal_mk (d := d0) (H3.fr (G105.trans (Fr.ext F109)) (fun _ h => h)) (H6.fr (G105.trans (Fr.ext F109)) (fun _ h => h))) d1 (kVal_mk (d := d1) (H9.fr (G105.trans (Fr.ext F109)) (fun _ h => h)) (H12.fr (G105.trans (Fr.ext F109)) (fun _ h => h))) (hL.fr E111) (eq_ev hx117 (valJoin_ev d0 d1 ha118 ha119))) rfl rfl ?_
          rintro _ w117 ⟨F117, cs120, rfl, H121⟩
          have E122 := E111.trans F117
          have G125 := (((G90.trans (Fr.ext F92)).trans (Fr.ext F102)).trans (Fr.ext F109)).trans (Fr.ext F117)
          obtain ⟨A127, c128, A130, c131, rfl, H129, H132⟩ := kVal_open H121
          refine o_v (v := .tuple #[.agg (cVal x117.1 A127 c128 A130 c131).toArray, .int .i64 x117.2]) (r_mov rfl) rfl rfl rfl ?_
          refine o_v (v := .agg (cVal x117.1 A127 c128 A130 c131).toArray) (r_ext rfl rfl) rfl rfl rfl ?_
          refine o_v (v := .int .i64 x117.2) (r_ext rfl rfl) rfl rfl rfl ?_
          refine o_alloc zero_api_Value rfl rfl rfl ?_
          intro b133 w133 e133 F133 B133
          have n133 : w.heap.size ≤ b133 := by rw [e133]; exact E122.size
          have m134 : w.heap.size ≤ b133 := by rw [e133]; exact ((G105.trans (Fr.ext F109)).trans (Fr.ext F117)).size
          have m135 : w19.heap.size ≤ b133 := by rw [e133]; exact (G113.trans (Fr.ext F117)).size
          have m136 : w21.heap.size ≤ b133 := by rw [e133]; exact G125.size
          have m138 : w117.heap.size ≤ b133 := Nat.le_of_eq e133.symm
          have E139 := E122.trans F133
          have G140 := ((G105.trans (Fr.ext F109)).trans (Fr.ext F117)).trans (Fr.ext F133)
          have G144 : Fr L w117 w133 := Fr.ext F133
          refine o_store rfl B133 (vs := (cVal x117.1 A127 c128 A130 c131)) rfl sz_api_Value rfl rfl rfl ?_
          intro w145 F145 B145
          have E146 := Ext.st E139 F145 (by simp; omega)
          have G147 : Fr L w w145 := G140.stp F145 (upc (.inr m134) (fun m hm => by cases hm))
          have G148 : Fr L w19 w145 := ((G113.trans (Fr.ext F117)).trans (Fr.ext F133)).stp F145 (upc (.inr m135) (fun m hm => by cases hm))
          have G149 : Fr L w21 w145 := (G125.trans (Fr.ext F133)).stp F145 (upc (.inr m136) (fun m hm => by cases hm))
          have G151 : Fr L w117 w145 := G144.stp F145 (upc (.inr m138) (fun m hm => by cases hm))
          have B145' : Blk w145 b133 _ (cVal x117.1 A127 c128 A130 c131) := B145
          refine o_v (v := .int .i64 x117.2) (r_asg rfl) rfl rfl rfl ?_
          refine eo_nil_sq ?_
          refine ec_seq ?_
          refine ec_region ?_
          refine o_v (v := .bool (worksV)) (r_mov rfl) rfl rfl rfl ?_
          refine o_v (v := .bool (worksV)) (r_mov rfl) rfl rfl rfl ?_
          refine o_v (v := .bool (belowV d0 d1)) (r_mov rfl) (want_t (t := 87) rfl rfl (of_not hc36)) rfl rfl ?_
          refine o_v (v := .bool (belowV d0 d1)) (r_mov rfl) (want_t (t := 87) rfl rfl (of_not hc36)) rfl rfl ?_
          refine o_vg (v := .bool (belowV d1 d0)) (want_cf (t := 89) rfl rfl) (fun hk => (r_mov rfl)) rfl rfl ?_
          refine o_v (v := .bool ((belowV d0 d1) || (belowV d1 d0))) (r_pickOr rfl rfl (fun hf => (gdT (notT hf)))) (want_t (t := 87) rfl rfl (of_not hc36)) rfl rfl ?_
          refine o_v (v := .bool ((belowV d0 d1) || (belowV d1 d0))) (r_pickT rfl (of_not hc36) rfl) rfl rfl rfl ?_
          refine o_v (v := .bool ((belowV d0 d1) || (belowV d1 d0))) (r_mov rfl) rfl rfl rfl ?_
          refine o_vg (v := .int .i64 x117.2) (want_ct (t := 93) rfl rfl) (fun hk => (r_mov rfl)) rfl rfl ?_
          refine o_vg (v := .bool (x117.2 == (0 : Int))) (want_ct (t := 93) rfl rfl) (fun hk => (r_int (gdT hk) rfl rfl)) rfl rfl ?_
          refine o_v (v := .bool (((belowV d0 d1) || (belowV d1 d0)) && (x117.2 == (0 : Int)))) (r_pickAnd rfl (fun ht => (gdT ht)) rfl) rfl rfl rfl ?_
          refine o_v (v := .bool (((belowV d0 d1) || (belowV d1 d0)) && (x117.2 == (0 : Int)))) (r_mov rfl) rfl rfl rfl ?_
          refine o_vg (v := .agg (cVal x117.1 A127 c128 A130 c131).toArray) (want_ct (t := 97) rfl rfl) (fun hk => (r_lda agg_api_Value rfl (vs := (cVal x117.1 A127 c128 A130 c131)) rfl (B145'.part (n := 8) rfl))) rfl rfl ?_
          refine o_vg (v := .agg (cVal d0 A1 c2 A4 c5).toArray) (want_ct (t := 97) rfl rfl) (fun hk => (r_lda agg_api_Value rfl (vs := (cVal d0 A1 c2 A4 c5)) rfl ((S19.fr G148 (fun _ h => h)).now.part (n := 8) rfl))) rfl rfl ?_
          obtain ⟨ha155, h⟩ := h
          refine o_callg (V := .bool (sameV x117.1 d0)) cf_value_Same (want_ct (t := 97) rfl rfl) (fun hk => (mapv2 (gdT hk) (gdT hk))) (fun hk => (value_Same_c x117.1 (kVal_mk (d := x117.1) (H129.up G151 (fun _ h => h) (upc (.inr m138) (fun _ h => .inl h))) (H132.up G151 (fun _ h => h) (upc (.inr m138) (fun _ h => .inl h)))) d0 (kVal_mk (d := d0) (H3.up G147 (fun _ h => h) (upc (.inr m134) (fun _ h => .inl h))) (H6.up G147 (fun _ h => h) (upc (.inr m134) (fun _ h => .inl h)))) ((hL.fr E146).cons B145'.lt) (valSame_ev x117.1 d0 (ha155 hk)))) rfl ?_
          intro w154 F154
          have E156 := E146.trans F154
          refine o_vg (v := .bool (sameV x117.1 d0)) (want_ct (t := 97) rfl rfl) (fun hk => (r_mov (gdT hk))) rfl rfl ?_
          refine o_vg (v := .agg (cVal x117.1 A127 c128 A130 c131).toArray) (want_gf (t := 101) rfl rfl) (fun hk => (r_lda agg_api_Value rfl (vs := (cVal x117.1 A127 c128 A130 c131)) rfl ((B145'.ex F154).part (n := 8) rfl))) rfl rfl ?_
          refine o_vg (v := .agg (cVal d1 A7 c8 A10 c11).toArray) (want_gf (t := 101) rfl rfl) (fun hk => (r_lda agg_api_Value rfl (vs := (cVal d1 A7 c8 A10 c11)) rfl ((S21.fr (G149.trans (Fr.ext F154)) (fun _ h => h)).now.part (n := 8) rfl))) rfl rfl ?_
          obtain ⟨ha164, h⟩ := h
          refine o_callg (V := .bool (sameV x117.1 d1)) cf_value_Same (want_gf (t := 101) rfl rfl) (fun hk => (mapv2 (gdT hk) (gdT hk))) (fun hk => (value_Same_c x117.1 (kVal_mk (d := x117.1) (H129.up (G151.trans (Fr.ext F154)) (fun _ h => h) (upc (.inr m138) (fun _ h => .inl h))) (H132.up (G151.trans (Fr.ext F154)) (fun _ h => h) (upc (.inr m138) (fun _ h => .inl h)))) d1 (kVal_mk (d := d1) (H9.up (G147.trans (Fr.ext F154)) (fun _ h => h) (upc (.inr m134) (fun _ h => .inl h))) (H12.up (G147.trans (Fr.ext F154)) (fun _ h => h) (upc (.inr m134) (fun _ h => .inl h)))) ((hL.fr E156).cons (B145'.ex F154).lt) (valSame_ev x117.1 d1 (ha164 hk)))) rfl ?_
          intro w163 F163
          have E165 := E156.trans F163
          refine o_vg (v := .bool ((sameV x117.1 d0) || (sameV x117.1 d1))) (want_ct (t := 97) rfl rfl) (fun hk => (r_pickOr (gdT hk) rfl (fun hf => (gdT (andM hk (notT hf)))))) rfl rfl ?_
          refine o_v (v := .bool ((((belowV d0 d1) || (belowV d1 d0)) && (x117.2 == (0 : Int))) && ((sameV x117.1 d0) || (sameV x117.1 d1)))) (r_pickAnd rfl (fun ht => (gdT ht)) rfl) rfl rfl rfl ?_
          refine o_v (v := .bool ((((belowV d0 d1) || (belowV d1 d0)) && (x117.2 == (0 : Int))) && ((sameV x117.1 d0) || (sameV x117.1 d1)))) (r_asg rfl) rfl rfl rfl ?_
          refine eo_nil_sq ?_
          refine ec_ret ?_
          subst h
          exact (end1 rfl ⟨_, rfl, E165, rfl⟩)
end Go.Proofs.Ytdojgmmpcdbeoaa
