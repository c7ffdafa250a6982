/- The law ValueLater: what it comes to. -/
import Derived.Test.YtdojgmmpcdbeoaaGb
namespace Go.Proofs.Ytdojgmmpcdbeoaa
open Go Go.RowKit
set_option linter.unusedVariables false
set_option linter.unusedSimpArgs false
def law06_ValueLater_raw (d0 : Val) (d1 : Val) (y : Bool) : Prop :=
  ((!(worksV)) = true → (y = false)) ∧ ((!(worksV)) = false → (((!(((!((fewV d0) && (fewV d1))) || (d0.kind != (1 : Int))) || (d1.kind != (1 : Int)))) = true → sm d0) ∧ (((!((((!((fewV d0) && (fewV d1))) || (d0.kind != (1 : Int))) || (d1.kind != (1 : Int))) || ((checkV d0) != (0 : Int)))) = true → sm d1) ∧ (((((((!((fewV d0) && (fewV d1))) || (d0.kind != (1 : Int))) || (d1.kind != (1 : Int))) || ((checkV d0) != (0 : Int))) || ((checkV d1) != (0 : Int))) = true → (y = (worksV))) ∧ ((((((!((fewV d0) && (fewV d1))) || (d0.kind != (1 : Int))) || (d1.kind != (1 : Int))) || ((checkV d0) != (0 : Int))) || ((checkV d1) != (0 : Int))) = false → ((sm d0) ∧ ((sm d1) ∧ (∃ x51, x51 = (joinV d0 d1) ∧ (((((decide (d1.time < d0.time)) || ((d0.time == d1.time) && (decide (d1.node < d0.node)))) || ((((d0.time == d1.time) && (d0.node == d1.node)) && d0.dead) && (!d1.dead))) = true → (((x51.2 == (0 : Int)) = true → sm x51.1) ∧ (y = ((x51.2 == (0 : Int)) && (sameV x51.1 d0))))) ∧ ((((decide (d1.time < d0.time)) || ((d0.time == d1.time) && (decide (d1.node < d0.node)))) || ((((d0.time == d1.time) && (d0.node == d1.node)) && d0.dead) && (!d1.dead))) = false → (y = ((x51.2 == (0 : Int)) && (x51.1.time == (max d0.time d1.time))))))))))))))
set_option maxRecDepth 20000 in
set_option maxHeartbeats 4000000 in
theorem law06_ValueLater_c {L : List Nat} {w : World} {csP0 : List Value} (d0 : Val) (HP0 : Stb L w (fun w => kVal.r w csP0 d0)) {csP1 : List Value} (d1 : Val) (HP1 : Stb L w (fun w => kVal.r w csP1 d1)) (hL : Lt L w) {y : Bool} (h : law06_ValueLater_raw d0 d1 y) :
    Calls Try.prog 8 [.agg csP0.toArray, .agg csP1.toArray].toArray w (Ret fun v w' => Ext w w' ∧ v = .bool y) := by
  obtain ⟨A1, c2, A4, c5, rfl, H3, H6⟩ := kVal_open HP0
  obtain ⟨A7, c8, A10, c11, rfl, H9, H12⟩ := kVal_open HP1
  unfold law06_ValueLater_raw at h
  refine calls_ec Try.func8 rfl rfl rfl ?_
  refine ec_seq ?_
  refine ec_region ?_
  refine o_box (cs := (cVal d0 A1 c2 A4 c5)) rfl rfl rfl ?_
  intro b13 w13 e13 F13 B13
  have S13 := B13.stb (nin hL e13)
  have G14 : Fr L w w13 := Fr.ext F13
  refine o_box (cs := (cVal d1 A7 c8 A10 c11)) rfl rfl rfl ?_
  intro b15 w15 e15 F15 B15
  have S15 := B15.stb (nin (hL.fr F13) e15)
  have E16 := F13.trans F15
  have G18 : Fr L w13 w15 := Fr.ext F15
  refine o_v (v := .bool false) (r_asg rfl) rfl rfl rfl ?_
  refine eo_nil_sq ?_
  refine ec_seq ?_
  refine ec_region ?_
  refine o_call cf_law06_works rfl (law06_works_c (hL.fr E16) (works_ev)) rfl rfl ?_
  rintro _ w19 ⟨F19, rfl⟩
  have E20 := E16.trans F19
  have G23 : Fr L w15 w19 := Fr.ext F19
  refine o_v (v := .bool (worksV)) (r_asg rfl) rfl rfl rfl ?_
  refine eo_nil_sq ?_
  refine ec_seq ?_
  refine ec_seq ?_
  refine ec_region ?_
  refine o_v (v := .bool (worksV)) (r_mov rfl) rfl rfl rfl ?_
  refine o_v (v := .bool (!(worksV))) (r_not rfl) rfl rfl rfl ?_
  refine eo_nil_sq ?_
  refine ec_cond rfl (fun hc24 => ?_) (fun hc24 => ?_)
  · replace h := h.1 hc24
    refine ec_seq ?_
    refine ec_region ?_
    refine o_v (v := .bool false) (r_asg rfl) rfl rfl rfl ?_
    refine eo_nil_sq ?_
    refine ec_ret ?_
    refine sq_ret ?_
    subst h
    exact (end1 rfl ⟨_, rfl, E20, rfl⟩)
  · replace h := h.2 hc24
    refine ec_skip ?_
    refine sq_n ?_
    refine ec_seq ?_
    refine ec_region ?_
    refine o_v (v := .agg (cVal d0 A1 c2 A4 c5).toArray) (r_lda agg_api_Value rfl (vs := (cVal d0 A1 c2 A4 c5)) rfl ((S13.fr (G18.trans (Fr.ext F19)) (fun _ h => h)).now.part (n := 8) rfl)) rfl rfl rfl ?_
    refine o_call cf_law06_Few rfl (law06_Few_c d0 (kVal_mk (d := d0) (H3.fr ((G14.trans (Fr.ext F15)).trans (Fr.ext F19)) (fun _ h => h)) (H6.fr ((G14.trans (Fr.ext F15)).trans (Fr.ext F19)) (fun _ h => h))) (hL.fr E20) (few_ev d0)) rfl rfl ?_
    rintro _ w26 ⟨F26, rfl⟩
    have E27 := E20.trans F26
    refine o_v (v := .bool (fewV d0)) (r_mov rfl) rfl rfl rfl ?_
    refine o_vg (v := .agg (cVal d1 A7 c8 A10 c11).toArray) (want_ct (t := 14) rfl rfl) (fun hk => (r_lda agg_api_Value rfl (vs := (cVal d1 A7 c8 A10 c11)) rfl ((S15.fr (G23.trans (Fr.ext F26)) (fun _ h => h)).now.part (n := 8) rfl))) rfl rfl ?_
    refine o_callg (V := .bool (fewV d1)) cf_law06_Few (want_ct (t := 14) rfl rfl) (fun hk => (mapv1 (gdT hk))) (fun hk => (law06_Few_c d1 (kVal_mk (d := d1) (H9.fr (((G14.trans (Fr.ext F15)).trans (Fr.ext F19)).trans (Fr.ext F26)) (fun _ h => h)) (H12.fr (((G14.trans (Fr.ext F15)).trans (Fr.ext F19)).trans (Fr.ext F26)) (fun _ h => h))) (hL.fr E27) (few_ev d1))) rfl ?_
    intro w31 F31
    have E32 := E27.trans F31
    have G33 := (((G14.trans (Fr.ext F15)).trans (Fr.ext F19)).trans (Fr.ext F26)).trans (Fr.ext F31)
    refine o_v (v := .bool ((fewV d0) && (fewV d1))) (r_pickAnd rfl (fun ht => (gdT ht)) rfl) rfl rfl rfl ?_
    refine o_v (v := .bool ((fewV d0) && (fewV d1))) (r_asg rfl) rfl rfl rfl ?_
    refine eo_nil_sq ?_
    refine ec_seq ?_
    refine ec_seq ?_
    refine ec_region ?_
    refine o_v (v := .bool ((fewV d0) && (fewV d1))) (r_mov rfl) rfl rfl rfl ?_
    refine o_v (v := .bool (!((fewV d0) && (fewV d1)))) (r_not rfl) rfl rfl rfl ?_
    refine o_v (v := .bool (!((fewV d0) && (fewV d1)))) (r_mov rfl) rfl rfl rfl ?_
    refine o_vg (v := .pointer (some ⟨b13, 0, none⟩)) (want_cf (t := 20) rfl rfl) (fun hk => (r_fa fld_api_Value_0 rfl rfl)) rfl rfl ?_
    refine o_vg (v := .int .i64 d0.kind) (want_cf (t := 20) rfl rfl) (fun hk => (r_ld one_int (gdT hk) ((S13.fr (((G18.trans (Fr.ext F19)).trans (Fr.ext F26)).trans (Fr.ext F31)) (fun _ h => h)).now.cell rfl))) rfl rfl ?_
    refine o_vg (v := .bool (d0.kind != (1 : Int))) (want_cf (t := 20) rfl rfl) (fun hk => (r_int (gdT hk) rfl rfl)) rfl rfl ?_
    refine o_v (v := .bool ((!((fewV d0) && (fewV d1))) || (d0.kind != (1 : Int)))) (r_pickOr rfl rfl (fun hf => (gdT (notT hf)))) rfl rfl rfl ?_
    refine o_v (v := .bool ((!((fewV d0) && (fewV d1))) || (d0.kind != (1 : Int)))) (r_mov rfl) rfl rfl rfl ?_
    refine o_vg (v := .pointer (some ⟨b15, 0, none⟩)) (want_cf (t := 25) rfl rfl) (fun hk => (r_fa fld_api_Value_0 rfl rfl)) rfl rfl ?_
    refine o_vg (v := .int .i64 d1.kind) (want_cf (t := 25) rfl rfl) (fun hk => (r_ld one_int (gdT hk) ((S15.fr ((G23.trans (Fr.ext F26)).trans (Fr.ext F31)) (fun _ h => h)).now.cell rfl))) rfl rfl ?_
    refine o_vg (v := .bool (d1.kind != (1 : Int))) (want_cf (t := 25) rfl rfl) (fun hk => (r_int (gdT hk) rfl rfl)) rfl rfl ?_
    refine o_v (v := .bool (((!((fewV d0) && (fewV d1))) || (d0.kind != (1 : Int))) || (d1.kind != (1 : Int)))) (r_pickOr rfl rfl (fun hf => (gdT (notT hf)))) rfl rfl rfl ?_
    refine o_v (v := .bool (((!((fewV d0) && (fewV d1))) || (d0.kind != (1 : Int))) || (d1.kind != (1 : Int)))) (r_mov rfl) rfl rfl rfl ?_
    refine o_vg (v := .agg (cVal d0 A1 c2 A4 c5).toArray) (want_cf (t := 30) rfl rfl) (fun hk => (r_lda agg_api_Value rfl (vs := (cVal d0 A1 c2 A4 c5)) rfl ((S13.fr (((G18.trans (Fr.ext F19)).trans (Fr.ext F26)).trans (Fr.ext F31)) (fun _ h => h)).now.part (n := 8) rfl))) rfl rfl ?_
    obtain ⟨ha39, h⟩ := h
    refine o_callg (V := .int .i64 (checkV d0)) cf_value_Check (want_cf (t := 30) rfl rfl) (fun hk => (mapv1 (gdT hk))) (fun hk => (value_Check_c d0 (kVal_mk (d := d0) (H3.fr G33 (fun _ h => h)) (H6.fr G33 (fun _ h => h))) (hL.fr E32) (valCheck_ev d0 (ha39 hk)))) rfl ?_
    intro w38 F38
    have E40 := E32.trans F38
    have G42 := (((G18.trans (Fr.ext F19)).trans (Fr.ext F26)).trans (Fr.ext F31)).trans (Fr.ext F38)
    refine o_vg (v := .bool ((checkV d0) != (0 : Int))) (want_cf (t := 30) rfl rfl) (fun hk => (r_int (gdT hk) rfl rfl)) rfl rfl ?_
    refine o_v (v := .bool ((((!((fewV d0) && (fewV d1))) || (d0.kind != (1 : Int))) || (d1.kind != (1 : Int))) || ((checkV d0) != (0 : Int)))) (r_pickOr rfl rfl (fun hf => (gdT (notT hf)))) rfl rfl rfl ?_
    refine o_v (v := .bool ((((!((fewV d0) && (fewV d1))) || (d0.kind != (1 : Int))) || (d1.kind != (1 : Int))) || ((checkV d0) != (0 : Int)))) (r_mov rfl) rfl rfl rfl ?_
    refine o_vg (v := .agg (cVal d1 A7 c8 A10 c11).toArray) (want_cf (t := 35) rfl rfl) (fun hk => (r_lda agg_api_Value rfl (vs := (cVal d1 A7 c8 A10 c11)) rfl ((S15.fr (((G23.trans (Fr.ext F26)).trans (Fr.ext F31)).trans (Fr.ext F38)) (fun _ h => h)).now.part (n := 8) rfl))) rfl rfl ?_
    obtain ⟨ha45, h⟩ := h
    refine o_callg (V := .int .i64 (checkV d1)) cf_value_Check (want_cf (t := 35) rfl rfl) (fun hk => (mapv1 (gdT hk))) (fun hk => (value_Check_c d1 (kVal_mk (d := d1) (H9.fr (G33.trans (Fr.ext F38)) (fun _ h => h)) (H12.fr (G33.trans (Fr.ext F38)) (fun _ h => h))) (hL.fr E40) (valCheck_ev d1 (ha45 hk)))) rfl ?_
    intro w44 F44
    have E46 := E40.trans F44
    have G49 := (((G23.trans (Fr.ext F26)).trans (Fr.ext F31)).trans (Fr.ext F38)).trans (Fr.ext F44)
    refine o_vg (v := .bool ((checkV d1) != (0 : Int))) (want_cf (t := 35) rfl rfl) (fun hk => (r_int (gdT hk) rfl rfl)) rfl rfl ?_
    refine o_v (v := .bool (((((!((fewV d0) && (fewV d1))) || (d0.kind != (1 : Int))) || (d1.kind != (1 : Int))) || ((checkV d0) != (0 : Int))) || ((checkV d1) != (0 : Int)))) (r_pickOr rfl rfl (fun hf => (gdT (notT hf)))) rfl rfl rfl ?_
    refine eo_nil_sq ?_
    refine ec_cond rfl (fun hc50 => ?_) (fun hc50 => ?_)
    · replace h := h.1 hc50
      refine ec_seq ?_
      refine ec_region ?_
      refine o_v (v := .bool (worksV)) (r_mov rfl) rfl rfl rfl ?_
      refine o_v (v := .bool (worksV)) (r_asg rfl) rfl rfl rfl ?_
      refine eo_nil_sq ?_
      refine ec_ret ?_
      refine sq_ret ?_
      subst h
      exact (end1 rfl ⟨_, rfl, E46, rfl⟩)
    · replace h := h.2 hc50
      refine ec_skip ?_
      refine sq_n ?_
      refine ec_seq ?_
      refine ec_region ?_
      refine o_v (v := .agg (cVal d0 A1 c2 A4 c5).toArray) (r_lda agg_api_Value rfl (vs := (cVal d0 A1 c2 A4 c5)) rfl ((S13.fr (G42.trans (Fr.ext F44)) (fun _ h => h)).now.part (n := 8) rfl)) rfl rfl rfl ?_
      refine o_v (v := .agg (cVal d1 A7 c8 A10 c11).toArray) (r_lda agg_api_Value rfl (vs := (cVal d1 A7 c8 A10 c11)) rfl ((S15.fr G49 (fun _ h => h)).now.part (n := 8) rfl)) rfl rfl rfl ?_
      obtain ⟨ha52, h⟩ := h
      obtain ⟨ha53, h⟩ := h
      obtain ⟨x51, hx51, h⟩ := h
      refine o_call cf_value_Join rfl (value_Join_c d0 (kVal_mk (d := d0) (H3.fr ((G33.trans (Fr.ext F38)).trans (Fr.ext F44)) (fun _ h => h)) (H6.fr ((G33.trans (Fr.ext F38)).trans (Fr.ext F44)) (fun _ h => h))) d1 (kVal_mk (d := d1) (H9.fr ((G33.trans (Fr.ext F38)).trans (Fr.ext F44)) (fun _ h => h)) (H12.fr ((G33.trans (Fr.ext F38)).trans (Fr.ext F44)) (fun _ h => h))) (hL.fr E46) (eq_ev hx51 (valJoin_ev d0 d1 ha52 ha53))) rfl rfl ?_
      rintro _ w51 ⟨F51, cs54, rfl, H55⟩
      have E56 := E46.trans F51
      obtain ⟨A60, c61, A63, c64, rfl, H62, H65⟩ := kVal_open H55
      refine o_v (v := .tuple #[.agg (cVal x51.1 A60 c61 A63 c64).toArray, .int .i64 x51.2]) (r_mov rfl) rfl rfl rfl ?_
      refine o_v (v := .agg (cVal x51.1 A60 c61 A63 c64).toArray) (r_ext rfl rfl) rfl rfl rfl ?_
      refine o_v (v := .int .i64 x51.2) (r_ext rfl rfl) rfl rfl rfl ?_
      refine o_alloc zero_api_Value rfl rfl rfl ?_
      intro b66 w66 e66 F66 B66
      have n66 : w.heap.size ≤ b66 := by rw [e66]; exact E56.size
      have m67 : w.heap.size ≤ b66 := by rw [e66]; exact (((G33.trans (Fr.ext F38)).trans (Fr.ext F44)).trans (Fr.ext F51)).size
      have m68 : w13.heap.size ≤ b66 := by rw [e66]; exact ((G42.trans (Fr.ext F44)).trans (Fr.ext F51)).size
      have m69 : w15.heap.size ≤ b66 := by rw [e66]; exact (G49.trans (Fr.ext F51)).size
      have m70 : w51.heap.size ≤ b66 := Nat.le_of_eq e66.symm
      have E71 := E56.trans F66
      have G72 := (((G33.trans (Fr.ext F38)).trans (Fr.ext F44)).trans (Fr.ext F51)).trans (Fr.ext F66)
      have G75 : Fr L w51 w66 := Fr.ext F66
      refine o_store rfl B66 (vs := (cVal x51.1 A60 c61 A63 c64)) rfl sz_api_Value rfl rfl rfl ?_
      intro w76 F76 B76
      have E77 := Ext.st E71 F76 (by simp; omega)
      have G78 : Fr L w w76 := G72.stp F76 (upc (.inr m67) (fun m hm => by cases hm))
      have G79 : Fr L w13 w76 := (((G42.trans (Fr.ext F44)).trans (Fr.ext F51)).trans (Fr.ext F66)).stp F76 (upc (.inr m68) (fun m hm => by cases hm))
      have G80 : Fr L w15 w76 := ((G49.trans (Fr.ext F51)).trans (Fr.ext F66)).stp F76 (upc (.inr m69) (fun m hm => by cases hm))
      have G81 : Fr L w51 w76 := G75.stp F76 (upc (.inr m70) (fun m hm => by cases hm))
      have B76' : Blk w76 b66 _ (cVal x51.1 A60 c61 A63 c64) := B76
      refine o_v (v := .int .i64 x51.2) (r_asg rfl) rfl rfl rfl ?_
      refine eo_nil_sq ?_
      refine ec_seq ?_
      refine ec_seq ?_
      refine ec_region ?_
      refine o_v (v := .pointer (some ⟨b13, 1, none⟩)) (r_fa fld_api_Value_1 rfl rfl) rfl rfl rfl ?_
      refine o_v (v := .int .i64 d0.time) (r_ld one_int rfl ((S13.fr G79 (fun _ h => h)).now.cell rfl)) rfl rfl rfl ?_
      refine o_v (v := .pointer (some ⟨b15, 1, none⟩)) (r_fa fld_api_Value_1 rfl rfl) rfl rfl rfl ?_
      refine o_v (v := .int .i64 d1.time) (r_ld one_int rfl ((S15.fr G80 (fun _ h => h)).now.cell rfl)) rfl rfl rfl ?_
      refine o_v (v := .bool (decide (d1.time < d0.time))) (r_int rfl rfl rfl) rfl rfl rfl ?_
      refine o_v (v := .bool (decide (d1.time < d0.time))) (r_mov rfl) rfl rfl rfl ?_
      refine o_vg (v := .pointer (some ⟨b13, 1, none⟩)) (want_cf (t := 52) rfl rfl) (fun hk => (r_fa fld_api_Value_1 rfl rfl)) rfl rfl ?_
      refine o_vg (v := .int .i64 d0.time) (want_cf (t := 52) rfl rfl) (fun hk => (r_ld one_int (gdT hk) ((S13.fr G79 (fun _ h => h)).now.cell rfl))) rfl rfl ?_
      refine o_vg (v := .pointer (some ⟨b15, 1, none⟩)) (want_cf (t := 52) rfl rfl) (fun hk => (r_fa fld_api_Value_1 rfl rfl)) rfl rfl ?_
      refine o_vg (v := .int .i64 d1.time) (want_cf (t := 52) rfl rfl) (fun hk => (r_ld one_int (gdT hk) ((S15.fr G80 (fun _ h => h)).now.cell rfl))) rfl rfl ?_
      refine o_vg (v := .bool (d0.time == d1.time)) (want_cf (t := 52) rfl rfl) (fun hk => (r_int (gdT hk) (gdT hk) rfl)) rfl rfl ?_
      refine o_vg (v := .bool (d0.time == d1.time)) (want_cf (t := 52) rfl rfl) (fun hk => (r_mov (gdT hk))) rfl rfl ?_
      refine o_vg (v := .pointer (some ⟨b13, 2, none⟩)) (want_gt (t := 58) rfl rfl) (fun hk => (r_fa fld_api_Value_2 rfl rfl)) rfl rfl ?_
      refine o_vg (v := .int .i64 d0.node) (want_gt (t := 58) rfl rfl) (fun hk => (r_ld one_int (gdT hk) ((S13.fr G79 (fun _ h => h)).now.cell rfl))) rfl rfl ?_
      refine o_vg (v := .pointer (some ⟨b15, 2, none⟩)) (want_gt (t := 58) rfl rfl) (fun hk => (r_fa fld_api_Value_2 rfl rfl)) rfl rfl ?_
      refine o_vg (v := .int .i64 d1.node) (want_gt (t := 58) rfl rfl) (fun hk => (r_ld one_int (gdT hk) ((S15.fr G80 (fun _ h => h)).now.cell rfl))) rfl rfl ?_
      refine o_vg (v := .bool (decide (d1.node < d0.node))) (want_gt (t := 58) rfl rfl) (fun hk => (r_int (gdT hk) (gdT hk) rfl)) rfl rfl ?_
      refine o_vg (v := .bool ((d0.time == d1.time) && (decide (d1.node < d0.node)))) (want_cf (t := 52) rfl rfl) (fun hk => (r_pickAnd (gdT hk) (fun ht => (gdT (andM hk ht))) rfl)) rfl rfl ?_
      refine o_v (v := .bool ((decide (d1.time < d0.time)) || ((d0.time == d1.time) && (decide (d1.node < d0.node))))) (r_pickOr rfl rfl (fun hf => (gdT (notT hf)))) rfl rfl rfl ?_
      refine o_v (v := .bool ((decide (d1.time < d0.time)) || ((d0.time == d1.time) && (decide (d1.node < d0.node))))) (r_mov rfl) rfl rfl rfl ?_
      refine o_vg (v := .pointer (some ⟨b13, 1, none⟩)) (want_cf (t := 66) rfl rfl) (fun hk => (r_fa fld_api_Value_1 rfl rfl)) rfl rfl ?_
      refine o_vg (v := .int .i64 d0.time) (want_cf (t := 66) rfl rfl) (fun hk => (r_ld one_int (gdT hk) ((S13.fr G79 (fun _ h => h)).now.cell rfl))) rfl rfl ?_
      refine o_vg (v := .pointer (some ⟨b15, 1, none⟩)) (want_cf (t := 66) rfl rfl) (fun hk => (r_fa fld_api_Value_1 rfl rfl)) rfl rfl ?_
      refine o_vg (v := .int .i64 d1.time) (want_cf (t := 66) rfl rfl) (fun hk => (r_ld one_int (gdT hk) ((S15.fr G80 (fun _ h => h)).now.cell rfl))) rfl rfl ?_
      refine o_vg (v := .bool (d0.time == d1.time)) (want_cf (t := 66) rfl rfl) (fun hk => (r_int (gdT hk) (gdT hk) rfl)) rfl rfl ?_
      refine o_vg (v := .bool (d0.time == d1.time)) (want_cf (t := 66) rfl rfl) (fun hk => (r_mov (gdT hk))) rfl rfl ?_
      refine o_vg (v := .pointer (some ⟨b13, 2, none⟩)) (want_gt (t := 72) rfl rfl) (fun hk => (r_fa fld_api_Value_2 rfl rfl)) rfl rfl ?_
      refine o_vg (v := .int .i64 d0.node) (want_gt (t := 72) rfl rfl) (fun hk => (r_ld one_int (gdT hk) ((S13.fr G79 (fun _ h => h)).now.cell rfl))) rfl rfl ?_
      refine o_vg (v := .pointer (some ⟨b15, 2, none⟩)) (want_gt (t := 72) rfl rfl) (fun hk => (r_fa fld_api_Value_2 rfl rfl)) rfl rfl ?_
      refine o_vg (v := .int .i64 d1.node) (want_gt (t := 72) rfl rfl) (fun hk => (r_ld one_int (gdT hk) ((S15.fr G80 (fun _ h => h)).now.cell rfl))) rfl rfl ?_
      refine o_vg (v := .bool (d0.node == d1.node)) (want_gt (t := 72) rfl rfl) (fun hk => (r_int (gdT hk) (gdT hk) rfl)) rfl rfl ?_
      refine o_vg (v := .bool ((d0.time == d1.time) && (d0.node == d1.node))) (want_cf (t := 66) rfl rfl) (fun hk => (r_pickAnd (gdT hk) (fun ht => (gdT (andM hk ht))) rfl)) rfl rfl ?_
      refine o_vg (v := .bool ((d0.time == d1.time) && (d0.node == d1.node))) (want_cf (t := 66) rfl rfl) (fun hk => (r_mov (gdT hk))) rfl rfl ?_
      refine o_vg (v := .pointer (some ⟨b13, 3, none⟩)) (want_gt (t := 79) rfl rfl) (fun hk => (r_fa fld_api_Value_3 rfl rfl)) rfl rfl ?_
      refine o_vg (v := .bool d0.dead) (want_gt (t := 79) rfl rfl) (fun hk => (r_ld one_bool (gdT hk) ((S13.fr G79 (fun _ h => h)).now.cell rfl))) rfl rfl ?_
      refine o_vg (v := .bool (((d0.time == d1.time) && (d0.node == d1.node)) && d0.dead)) (want_cf (t := 66) rfl rfl) (fun hk => (r_pickAnd (gdT hk) (fun ht => (gdT (andM hk ht))) rfl)) rfl rfl ?_
      refine o_vg (v := .bool (((d0.time == d1.time) && (d0.node == d1.node)) && d0.dead)) (want_cf (t := 66) rfl rfl) (fun hk => (r_mov (gdT hk))) rfl rfl ?_
      refine o_vg (v := .pointer (some ⟨b15, 3, none⟩)) (want_gt (t := 83) rfl rfl) (fun hk => (r_fa fld_api_Value_3 rfl rfl)) rfl rfl ?_
      refine o_vg (v := .bool d1.dead) (want_gt (t := 83) rfl rfl) (fun hk => (r_ld one_bool (gdT hk) ((S15.fr G80 (fun _ h => h)).now.cell rfl))) rfl rfl ?_
      refine o_vg (v := .bool (!d1.dead)) (want_gt (t := 83) rfl rfl) (fun hk => (r_not (gdT hk))) rfl rfl ?_
      refine o_vg (v := .bool ((((d0.time == d1.time) && (d0.node == d1.node)) && d0.dead) && (!d1.dead))) (want_cf (t := 66) rfl rfl) (fun hk => (r_pickAnd (gdT hk) (fun ht => (gdT (andM hk ht))) rfl)) rfl rfl ?_
      refine o_v (v := .bool (((decide (d1.time < d0.time)) || ((d0.time == d1.time) && (decide (d1.node < d0.node)))) || ((((d0.time == d1.time) && (d0.node == d1.node)) && d0.dead) && (!d1.dead)))) (r_pickOr rfl rfl (fun hf => (gdT (notT hf)))) rfl rfl rfl ?_
      refine eo_nil_sq ?_
      refine ec_cond rfl (fun hc82 => ?_) (fun hc82 => ?_)
      · replace h := h.1 hc82
        refine ec_seq ?_
        refine ec_region ?_
        refine o_v (v := .bool (worksV)) (r_mov rfl) rfl rfl rfl ?_
        refine o_v (v := .bool (worksV)) (r_mov rfl) rfl rfl rfl ?_
        refine o_v (v := .int .i64 x51.2) (r_mov rfl) (want_t (t := 90) rfl rfl (of_not hc24)) rfl rfl ?_
        refine o_v (v := .bool (x51.2 == (0 : Int))) (r_int rfl rfl rfl) (want_t (t := 90) rfl rfl (of_not hc24)) rfl rfl ?_
        refine o_v (v := .bool (x51.2 == (0 : Int))) (r_pickT rfl (of_not hc24) rfl) rfl rfl rfl ?_
        refine o_v (v := .bool (x51.2 == (0 : Int))) (r_mov rfl) rfl rfl rfl ?_
        refine o_vg (v := .agg (cVal x51.1 A60 c61 A63 c64).toArray) (want_ct (t := 94) rfl rfl) (fun hk => (r_lda agg_api_Value rfl (vs := (cVal x51.1 A60 c61 A63 c64)) rfl (B76'.part (n := 8) rfl))) rfl rfl ?_
        refine o_vg (v := .agg (cVal d0 A1 c2 A4 c5).toArray) (want_ct (t := 94) rfl rfl) (fun hk => (r_lda agg_api_Value rfl (vs := (cVal d0 A1 c2 A4 c5)) rfl ((S13.fr G79 (fun _ h => h)).now.part (n := 8) rfl))) rfl rfl ?_
        obtain ⟨ha85, h⟩ := h
        refine o_callg (V := .bool (sameV x51.1 d0)) cf_value_Same (want_ct (t := 94) rfl rfl) (fun hk => (mapv2 (gdT hk) (gdT hk))) (fun hk => (value_Same_c x51.1 (kVal_mk (d := x51.1) (H62.up G81 (fun _ h => h) (upc (.inr m70) (fun _ h => .inl h))) (H65.up G81 (fun _ h => h) (upc (.inr m70) (fun _ h => .inl h)))) d0 (kVal_mk (d := d0) (H3.up G78 (fun _ h => h) (upc (.inr m67) (fun _ h => .inl h))) (H6.up G78 (fun _ h => h) (upc (.inr m67) (fun _ h => .inl h)))) ((hL.fr E77).cons B76'.lt) (valSame_ev x51.1 d0 (ha85 hk)))) rfl ?_
        intro w84 F84
        have E86 := E77.trans F84
        refine o_v (v := .bool ((x51.2 == (0 : Int)) && (sameV x51.1 d0))) (r_pickAnd rfl (fun ht => (gdT ht)) rfl) rfl rfl rfl ?_
        refine o_v (v := .bool ((x51.2 == (0 : Int)) && (sameV x51.1 d0))) (r_asg rfl) rfl rfl rfl ?_
        refine eo_nil_sq ?_
        refine ec_ret ?_
        refine sq_ret ?_
        subst h
        exact (end1 rfl ⟨_, rfl, E86, rfl⟩)
      · replace h := h.2 hc82
        refine ec_skip ?_
        refine sq_n ?_
        refine ec_seq ?_
        refine ec_region ?_
        refine o_v (v := .bool (worksV)) (r_mov rfl) rfl rfl rfl ?_
        refine o_v (v := .bool (worksV)) (r_mov rfl) rfl rfl rfl ?_
        refine o_v (v := .int .i64 x51.2) (r_mov rfl) (want_t (t := 100) rfl rfl (of_not hc24)) rfl rfl ?_
        refine o_v (v := .bool (x51.2 == (0 : Int))) (r_int rfl rfl rfl) (want_t (t := 100) rfl rfl (of_not hc24)) rfl rfl ?_
        refine o_v (v := .bool (x51.2 == (0 : Int))) (r_pickT rfl (of_not hc24) rfl) rfl rfl rfl ?_
        refine o_v (v := .bool (x51.2 == (0 : Int))) (r_mov rfl) rfl rfl rfl ?_
        refine o_vg (v := .pointer (some ⟨b66, 1, none⟩)) (want_ct (t := 104) rfl rfl) (fun hk => (r_fa fld_api_Value_1 rfl rfl)) rfl rfl ?_
        refine o_vg (v := .int .i64 x51.1.time) (want_ct (t := 104) rfl rfl) (fun hk => (r_ld one_int (gdT hk) (B76'.cell rfl))) rfl rfl ?_
        refine o_vg (v := .pointer (some ⟨b13, 1, none⟩)) (want_ct (t := 104) rfl rfl) (fun hk => (r_fa fld_api_Value_1 rfl rfl)) rfl rfl ?_
        refine o_vg (v := .int .i64 d0.time) (want_ct (t := 104) rfl rfl) (fun hk => (r_ld one_int (gdT hk) ((S13.fr G79 (fun _ h => h)).now.cell rfl))) rfl rfl ?_
        refine o_vg (v := .pointer (some ⟨b15, 1, none⟩)) (want_ct (t := 104) rfl rfl) (fun hk => (r_fa fld_api_Value_1 rfl rfl)) rfl rfl ?_
        refine o_vg (v := .int .i64 d1.time) (want_ct (t := 104) rfl rfl) (fun hk => (r_ld one_int (gdT hk) ((S15.fr G80 (fun _ h => h)).now.cell rfl))) rfl rfl ?_
        refine o_vg (v := .int .i64 (max d0.time d1.time)) (want_ct (t := 104) rfl rfl) (fun hk => (r_max (gdT hk) (gdT hk))) rfl rfl ?_
        refine o_vg (v := .bool (x51.1.time == (max d0.time d1.time))) (want_ct (t := 104) rfl rfl) (fun hk => (r_int (gdT hk) (gdT hk) rfl)) rfl rfl ?_
        refine o_v (v := .bool ((x51.2 == (0 : Int)) && (x51.1.time == (max d0.time d1.time)))) (r_pickAnd rfl (fun ht => (gdT ht)) rfl) rfl rfl rfl ?_
        refine o_v (v := .bool ((x51.2 == (0 : Int)) && (x51.1.time == (max d0.time d1.time)))) (r_asg rfl) rfl rfl rfl ?_
        refine eo_nil_sq ?_
        refine ec_ret ?_
        subst h
        exact (end1 rfl ⟨_, rfl, E77, rfl⟩)
end Go.Proofs.Ytdojgmmpcdbeoaa
