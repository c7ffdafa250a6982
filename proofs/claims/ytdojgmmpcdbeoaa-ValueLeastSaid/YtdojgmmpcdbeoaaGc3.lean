/- The law ValueLeast: what it comes to. -/
import Derived.Test.YtdojgmmpcdbeoaaGb
namespace Go.Proofs.Ytdojgmmpcdbeoaa
open Go Go.RowKit
set_option linter.unusedVariables false
set_option linter.unusedSimpArgs false
def law06_ValueLeast_raw (d0 : Val) (d1 : Val) (d2 : Val) (y : Bool) : Prop :=
  ((!(worksV)) = true → (y = false)) ∧ ((!(worksV)) = false → (((!(((fewV d0) && (fewV d1)) && (fewV d2))) = true → (y = (worksV))) ∧ ((!(((fewV d0) && (fewV d1)) && (fewV d2))) = false → ((sm d0) ∧ ((sm d1) ∧ (∃ x58, x58 = (joinV d0 d1) ∧ (∃ x93, x93 = (leastV d0.kind) ∧ ((sm d0) ∧ (((((checkV d0) == (0 : Int)) && (!(x93.2 != (0 : Int)))) = true → sm x93.1) ∧ (((((checkV d0) == (0 : Int)) && (!(x93.2 != (0 : Int)))) = true → sm d0) ∧ (((((checkV d0) == (0 : Int)) && ((x93.2 != (0 : Int)) || (!(belowV x93.1 d0)))) = true → (y = false)) ∧ ((((checkV d0) == (0 : Int)) && ((x93.2 != (0 : Int)) || (!(belowV x93.1 d0)))) = false → (((x58.2 != (0 : Int)) = true → ((sm d0) ∧ ((sm d1) ∧ (((!(belowV d0 d1)) = true → sm d1) ∧ (((!(belowV d0 d1)) = true → sm d0) ∧ (y = ((!(belowV d0 d1)) && (!(belowV d1 d0))))))))) ∧ ((x58.2 != (0 : Int)) = false → ((sm d0) ∧ ((sm x58.1) ∧ (((!(!(belowV d0 x58.1))) = true → sm d1) ∧ (((!(!(belowV d0 x58.1))) = true → sm x58.1) ∧ (((!((!(belowV d0 x58.1)) || (!(belowV d1 x58.1)))) = true → sm x58.1) ∧ (((((!(belowV d0 x58.1)) || (!(belowV d1 x58.1))) || ((checkV x58.1) != (0 : Int))) = true → (y = false)) ∧ ((((!(belowV d0 x58.1)) || (!(belowV d1 x58.1))) || ((checkV x58.1) != (0 : Int))) = false → ((sm d0) ∧ ((sm d2) ∧ (((belowV d0 d2) = true → sm d1) ∧ (((belowV d0 d2) = true → sm d2) ∧ ((sm x58.1) ∧ ((sm d2) ∧ (y = (((belowV d0 d2) && (belowV d1 d2)) == (belowV x58.1 d2))))))))))))))))))))))))))))))
set_option maxRecDepth 20000 in
set_option maxHeartbeats 4000000 in
theorem law06_ValueLeast_c {L : List Nat} {w : World} {csP0 : List Value} (d0 : Val) (HP0 : Stb L w (fun w => kVal.r w csP0 d0)) {csP1 : List Value} (d1 : Val) (HP1 : Stb L w (fun w => kVal.r w csP1 d1)) {csP2 : List Value} (d2 : Val) (HP2 : Stb L w (fun w => kVal.r w csP2 d2)) (hL : Lt L w) {y : Bool} (h : law06_ValueLeast_raw d0 d1 d2 y) :
    Calls Try.prog 5 [.agg csP0.toArray, .agg csP1.toArray, .agg csP2.toArray].toArray w (Ret fun v w' => Ext w w' ∧ v = .bool y) := by
  obtain ⟨A1, c2, A4, c5, rfl, H3, H6⟩ := kVal_open HP0
  obtain ⟨A7, c8, A10, c11, rfl, H9, H12⟩ := kVal_open HP1
  obtain ⟨A13, c14, A16, c17, rfl, H15, H18⟩ := kVal_open HP2
  unfold law06_ValueLeast_raw at h
  refine calls_ec Try.func5 rfl rfl rfl ?_
  refine ec_seq ?_
  refine ec_region ?_
  refine o_box (cs := (cVal d0 A1 c2 A4 c5)) rfl rfl rfl ?_
  intro b19 w19 e19 F19 B19
  have S19 := B19.stb (nin hL e19)
  have G20 : Fr L w w19 := Fr.ext F19
  refine o_box (cs := (cVal d1 A7 c8 A10 c11)) rfl rfl rfl ?_
  intro b21 w21 e21 F21 B21
  have S21 := B21.stb (nin (hL.fr F19) e21)
  have E22 := F19.trans F21
  have G24 : Fr L w19 w21 := Fr.ext F21
  refine o_box (cs := (cVal d2 A13 c14 A16 c17)) rfl rfl rfl ?_
  intro b25 w25 e25 F25 B25
  have S25 := B25.stb (nin (hL.fr E22) e25)
  have E26 := E22.trans F25
  have G29 : Fr L w21 w25 := Fr.ext F25
  refine o_v (v := .bool false) (r_asg rfl) rfl rfl rfl ?_
  refine eo_nil_sq ?_
  refine ec_seq ?_
  refine ec_region ?_
  refine o_call cf_law06_works rfl (law06_works_c (hL.fr E26) (works_ev)) rfl rfl ?_
  rintro _ w30 ⟨F30, rfl⟩
  have E31 := E26.trans F30
  have G35 : Fr L w25 w30 := Fr.ext F30
  refine o_v (v := .bool (worksV)) (r_asg rfl) rfl rfl rfl ?_
  refine eo_nil_sq ?_
  refine ec_seq ?_
  refine ec_seq ?_
  refine ec_region ?_
  refine o_v (v := .bool (worksV)) (r_mov rfl) rfl rfl rfl ?_
  refine o_v (v := .bool (!(worksV))) (r_not rfl) rfl rfl rfl ?_
  refine eo_nil_sq ?_
  refine ec_cond rfl (fun hc36 => ?_) (fun hc36 => ?_)
  · replace h := h.1 hc36
    refine ec_seq ?_
    refine ec_region ?_
    refine o_v (v := .bool false) (r_asg rfl) rfl rfl rfl ?_
    refine eo_nil_sq ?_
    refine ec_ret ?_
    refine sq_ret ?_
    subst h
    exact (end1 rfl ⟨_, rfl, E31, rfl⟩)
  · replace h := h.2 hc36
    refine ec_skip ?_
    refine sq_n ?_
    refine ec_seq ?_
    refine ec_region ?_
    refine o_v (v := .agg (cVal d0 A1 c2 A4 c5).toArray) (r_lda agg_api_Value rfl (vs := (cVal d0 A1 c2 A4 c5)) rfl ((S19.fr ((G24.trans (Fr.ext F25)).trans (Fr.ext F30)) (fun _ h => h)).now.part (n := 8) rfl)) rfl rfl rfl ?_
    refine o_call cf_law06_Few rfl (law06_Few_c d0 (kVal_mk (d := d0) (H3.fr (((G20.trans (Fr.ext F21)).trans (Fr.ext F25)).trans (Fr.ext F30)) (fun _ h => h)) (H6.fr (((G20.trans (Fr.ext F21)).trans (Fr.ext F25)).trans (Fr.ext F30)) (fun _ h => h))) (hL.fr E31) (few_ev d0)) rfl rfl ?_
    rintro _ w39 ⟨F39, rfl⟩
    have E40 := E31.trans F39
    have G41 := (((G20.trans (Fr.ext F21)).trans (Fr.ext F25)).trans (Fr.ext F30)).trans (Fr.ext F39)
    refine o_v (v := .bool (fewV d0)) (r_mov rfl) rfl rfl rfl ?_
    refine o_vg (v := .agg (cVal d1 A7 c8 A10 c11).toArray) (want_ct (t := 19) rfl rfl) (fun hk => (r_lda agg_api_Value rfl (vs := (cVal d1 A7 c8 A10 c11)) rfl ((S21.fr ((G29.trans (Fr.ext F30)).trans (Fr.ext F39)) (fun _ h => h)).now.part (n := 8) rfl))) rfl rfl ?_
    refine o_callg (V := .bool (fewV d1)) cf_law06_Few (want_ct (t := 19) rfl rfl) (fun hk => (mapv1 (gdT hk))) (fun hk => (law06_Few_c d1 (kVal_mk (d := d1) (H9.fr G41 (fun _ h => h)) (H12.fr G41 (fun _ h => h))) (hL.fr E40) (few_ev d1))) rfl ?_
    intro w45 F45
    have E46 := E40.trans F45
    have G48 := (((G24.trans (Fr.ext F25)).trans (Fr.ext F30)).trans (Fr.ext F39)).trans (Fr.ext F45)
    refine o_v (v := .bool ((fewV d0) && (fewV d1))) (r_pickAnd rfl (fun ht => (gdT ht)) rfl) rfl rfl rfl ?_
    refine o_v (v := .bool ((fewV d0) && (fewV d1))) (r_mov rfl) rfl rfl rfl ?_
    refine o_vg (v := .agg (cVal d2 A13 c14 A16 c17).toArray) (want_ct (t := 23) rfl rfl) (fun hk => (r_lda agg_api_Value rfl (vs := (cVal d2 A13 c14 A16 c17)) rfl ((S25.fr ((G35.trans (Fr.ext F39)).trans (Fr.ext F45)) (fun _ h => h)).now.part (n := 8) rfl))) rfl rfl ?_
    refine o_callg (V := .bool (fewV d2)) cf_law06_Few (want_ct (t := 23) rfl rfl) (fun hk => (mapv1 (gdT hk))) (fun hk => (law06_Few_c d2 (kVal_mk (d := d2) (H15.fr (G41.trans (Fr.ext F45)) (fun _ h => h)) (H18.fr (G41.trans (Fr.ext F45)) (fun _ h => h))) (hL.fr E46) (few_ev d2))) rfl ?_
    intro w51 F51
    have E52 := E46.trans F51
    have G55 := (((G29.trans (Fr.ext F30)).trans (Fr.ext F39)).trans (Fr.ext F45)).trans (Fr.ext F51)
    refine o_v (v := .bool (((fewV d0) && (fewV d1)) && (fewV d2))) (r_pickAnd rfl (fun ht => (gdT ht)) rfl) rfl rfl rfl ?_
    refine o_v (v := .bool (((fewV d0) && (fewV d1)) && (fewV d2))) (r_asg rfl) rfl rfl rfl ?_
    refine eo_nil_sq ?_
    refine ec_seq ?_
    refine ec_seq ?_
    refine ec_region ?_
    refine o_v (v := .bool (((fewV d0) && (fewV d1)) && (fewV d2))) (r_mov rfl) rfl rfl rfl ?_
    refine o_v (v := .bool (!(((fewV d0) && (fewV d1)) && (fewV d2)))) (r_not rfl) rfl rfl rfl ?_
    refine eo_nil_sq ?_
    refine ec_cond rfl (fun hc57 => ?_) (fun hc57 => ?_)
    · replace h := h.1 hc57
      refine ec_seq ?_
      refine ec_region ?_
      refine o_v (v := .bool (worksV)) (r_mov rfl) rfl rfl rfl ?_
      refine o_v (v := .bool (worksV)) (r_asg rfl) rfl rfl rfl ?_
      refine eo_nil_sq ?_
      refine ec_ret ?_
      refine sq_ret ?_
      subst h
      exact (end1 rfl ⟨_, rfl, E52, rfl⟩)
    · replace h := h.2 hc57
      refine ec_skip ?_
      refine sq_n ?_
      refine ec_seq ?_
      refine ec_region ?_
      refine o_v (v := .agg (cVal d0 A1 c2 A4 c5).toArray) (r_lda agg_api_Value rfl (vs := (cVal d0 A1 c2 A4 c5)) rfl ((S19.fr (G48.trans (Fr.ext F51)) (fun _ h => h)).now.part (n := 8) rfl)) rfl rfl rfl ?_
      refine o_v (v := .agg (cVal d1 A7 c8 A10 c11).toArray) (r_lda agg_api_Value rfl (vs := (cVal d1 A7 c8 A10 c11)) rfl ((S21.fr G55 (fun _ h => h)).now.part (n := 8) rfl)) rfl rfl rfl ?_
      obtain ⟨ha59, h⟩ := h
      obtain ⟨ha60, h⟩ := h
      obtain ⟨x58, hx58, h⟩ := h
      refine o_call cf_value_Join rfl (value_Join_c d0 (kVal_mk (d := d0) (H3.fr ((G41.trans (Fr.ext F45)).trans (Fr.ext F51)) (fun _ h => h)) (H6.fr ((G41.trans (Fr.ext F45)).trans (Fr.ext F51)) (fun _ h => h))) d1 (kVal_mk (d := d1) (H9.fr ((G41.trans (Fr.ext F45)).trans (Fr.ext F51)) (fun _ h => h)) (H12.fr ((G41.trans (Fr.ext F45)).trans (Fr.ext F51)) (fun _ h => h))) (hL.fr E52) (eq_ev hx58 (valJoin_ev d0 d1 ha59 ha60))) rfl rfl ?_
      rintro _ w58 ⟨F58, cs61, rfl, H62⟩
      have E63 := E52.trans F58
      have G67 := (((G35.trans (Fr.ext F39)).trans (Fr.ext F45)).trans (Fr.ext F51)).trans (Fr.ext F58)
      obtain ⟨A68, c69, A71, c72, rfl, H70, H73⟩ := kVal_open H62
      refine o_v (v := .tuple #[.agg (cVal x58.1 A68 c69 A71 c72).toArray, .int .i64 x58.2]) (r_mov rfl) rfl rfl rfl ?_
      refine o_v (v := .agg (cVal x58.1 A68 c69 A71 c72).toArray) (r_ext rfl rfl) rfl rfl rfl ?_
      refine o_v (v := .int .i64 x58.2) (r_ext rfl rfl) rfl rfl rfl ?_
      refine o_alloc zero_api_Value rfl rfl rfl ?_
      intro b74 w74 e74 F74 B74
      have n74 : w.heap.size ≤ b74 := by rw [e74]; exact E63.size
      have m75 : w.heap.size ≤ b74 := by rw [e74]; exact (((G41.trans (Fr.ext F45)).trans (Fr.ext F51)).trans (Fr.ext F58)).size
      have m76 : w19.heap.size ≤ b74 := by rw [e74]; exact ((G48.trans (Fr.ext F51)).trans (Fr.ext F58)).size
      have m77 : w21.heap.size ≤ b74 := by rw [e74]; exact (G55.trans (Fr.ext F58)).size
      have m78 : w25.heap.size ≤ b74 := by rw [e74]; exact G67.size
      have m79 : w58.heap.size ≤ b74 := Nat.le_of_eq e74.symm
      have E80 := E63.trans F74
      have G81 := (((G41.trans (Fr.ext F45)).trans (Fr.ext F51)).trans (Fr.ext F58)).trans (Fr.ext F74)
      have G85 : Fr L w58 w74 := Fr.ext F74
      refine o_store rfl B74 (vs := (cVal x58.1 A68 c69 A71 c72)) rfl sz_api_Value rfl rfl rfl ?_
      intro w86 F86 B86
      have E87 := Ext.st E80 F86 (by simp; omega)
      have G88 : Fr L w w86 := G81.stp F86 (upc (.inr m75) (fun m hm => by cases hm))
      have G89 : Fr L w19 w86 := (((G48.trans (Fr.ext F51)).trans (Fr.ext F58)).trans (Fr.ext F74)).stp F86 (upc (.inr m76) (fun m hm => by cases hm))
      have G90 : Fr L w21 w86 := ((G55.trans (Fr.ext F58)).trans (Fr.ext F74)).stp F86 (upc (.inr m77) (fun m hm => by cases hm))
      have G91 : Fr L w25 w86 := (G67.trans (Fr.ext F74)).stp F86 (upc (.inr m78) (fun m hm => by cases hm))
      have G92 : Fr L w58 w86 := G85.stp F86 (upc (.inr m79) (fun m hm => by cases hm))
      have B86' : Blk w86 b74 _ (cVal x58.1 A68 c69 A71 c72) := B86
      refine o_v (v := .int .i64 x58.2) (r_asg rfl) rfl rfl rfl ?_
      refine eo_nil_sq ?_
      refine ec_seq ?_
      refine ec_region ?_
      refine o_v (v := .pointer (some ⟨b19, 0, none⟩)) (r_fa fld_api_Value_0 rfl rfl) rfl rfl rfl ?_
      refine o_v (v := .int .i64 d0.kind) (r_ld one_int rfl ((S19.fr G89 (fun _ h => h)).now.cell rfl)) rfl rfl rfl ?_
      obtain ⟨x93, hx93, h⟩ := h
      refine o_call cf_value_Least rfl (value_Least_c d0.kind ((hL.fr E87).cons B86'.lt) (eq_ev hx93 (valLeast_ev d0.kind))) rfl rfl ?_
      rintro _ w93 ⟨F93, cs94, rfl, H95⟩
      have E96 := E87.trans F93
      obtain ⟨A103, c104, A106, c107, rfl, H105, H108⟩ := kVal_open H95
      refine o_v (v := .tuple #[.agg (cVal x93.1 A103 c104 A106 c107).toArray, .int .i64 x93.2]) (r_mov rfl) rfl rfl rfl ?_
      refine o_v (v := .agg (cVal x93.1 A103 c104 A106 c107).toArray) (r_ext rfl rfl) rfl rfl rfl ?_
      refine o_v (v := .int .i64 x93.2) (r_ext rfl rfl) rfl rfl rfl ?_
      refine o_alloc zero_api_Value rfl rfl rfl ?_
      intro b109 w109 e109 F109 B109
      have n109 : w.heap.size ≤ b109 := by rw [e109]; exact E96.size
      have q110 : b74 < b109 := by rw [e109]; exact (B86'.ex F93).lt
      have m111 : w.heap.size ≤ b109 := by rw [e109]; exact (G88.trans (Fr.ext F93)).size
      have m112 : w19.heap.size ≤ b109 := by rw [e109]; exact (G89.trans (Fr.ext F93)).size
      have m113 : w21.heap.size ≤ b109 := by rw [e109]; exact (G90.trans (Fr.ext F93)).size
      have m114 : w25.heap.size ≤ b109 := by rw [e109]; exact (G91.trans (Fr.ext F93)).size
      have m115 : w58.heap.size ≤ b109 := by rw [e109]; exact (G92.trans (Fr.ext F93)).size
      have m116 : w93.heap.size ≤ b109 := Nat.le_of_eq e109.symm
      have E117 := E96.trans F109
      have G123 : Fr (b74 :: L) w93 w109 := Fr.ext F109
      refine o_store rfl B109 (vs := (cVal x93.1 A103 c104 A106 c107)) rfl sz_api_Value rfl rfl rfl ?_
      intro w125 F125 B125
      have E126 := Ext.st E117 F125 (by simp; omega)
      have G127 : Fr L w w125 := ((G88.trans (Fr.ext F93)).trans (Fr.ext F109)).stp F125 (upc (.inr m111) (fun m hm => by cases hm))
      have G128 : Fr L w19 w125 := ((G89.trans (Fr.ext F93)).trans (Fr.ext F109)).stp F125 (upc (.inr m112) (fun m hm => by cases hm))
      have G129 : Fr L w21 w125 := ((G90.trans (Fr.ext F93)).trans (Fr.ext F109)).stp F125 (upc (.inr m113) (fun m hm => by cases hm))
      have G130 : Fr L w25 w125 := ((G91.trans (Fr.ext F93)).trans (Fr.ext F109)).stp F125 (upc (.inr m114) (fun m hm => by cases hm))
      have G131 : Fr L w58 w125 := ((G92.trans (Fr.ext F93)).trans (Fr.ext F109)).stp F125 (upc (.inr m115) (fun m hm => by cases hm))
      have G132 : Fr (b74 :: L) w93 w125 := G123.stp F125 (upc (.inr m116) (fun m hm => by cases hm))
      have B133 := ((B86'.ex F93).ex F109).fr F125 (by simp; omega)
      have B125' : Blk w125 b109 _ (cVal x93.1 A103 c104 A106 c107) := B125
      refine o_v (v := .int .i64 x93.2) (r_asg rfl) rfl rfl rfl ?_
      refine eo_nil_sq ?_
      refine ec_seq ?_
      refine ec_seq ?_
      refine ec_region ?_
      refine o_v (v := .agg (cVal d0 A1 c2 A4 c5).toArray) (r_lda agg_api_Value rfl (vs := (cVal d0 A1 c2 A4 c5)) rfl ((S19.fr G128 (fun _ h => h)).now.part (n := 8) rfl)) rfl rfl rfl ?_
      obtain ⟨ha136, h⟩ := h
      refine o_call cf_value_Check rfl (value_Check_c d0 (kVal_mk (d := d0) (H3.up G127 (fun _ h => h) (upc (.inr m111) (upc (.inr m75) (fun _ h => .inl h)))) (H6.up G127 (fun _ h => h) (upc (.inr m111) (upc (.inr m75) (fun _ h => .inl h))))) (((hL.fr E126).cons B133.lt).cons B125'.lt) (valCheck_ev d0 ha136)) rfl rfl ?_
      rintro _ w135 ⟨F135, rfl⟩
      have E137 := E126.trans F135
      refine o_v (v := .bool ((checkV d0) == (0 : Int))) (r_int rfl rfl rfl) rfl rfl rfl ?_
      refine o_v (v := .bool ((checkV d0) == (0 : Int))) (r_mov rfl) rfl rfl rfl ?_
      refine o_vg (v := .int .i64 x93.2) (want_ct (t := 45) rfl rfl) (fun hk => (r_mov rfl)) rfl rfl ?_
      refine o_vg (v := .bool (x93.2 != (0 : Int))) (want_ct (t := 45) rfl rfl) (fun hk => (r_int (gdT hk) rfl rfl)) rfl rfl ?_
      refine o_vg (v := .bool (x93.2 != (0 : Int))) (want_ct (t := 45) rfl rfl) (fun hk => (r_mov (gdT hk))) rfl rfl ?_
      refine o_vg (v := .agg (cVal x93.1 A103 c104 A106 c107).toArray) (want_gf (t := 48) rfl rfl) (fun hk => (r_lda agg_api_Value rfl (vs := (cVal x93.1 A103 c104 A106 c107)) rfl ((B125'.ex F135).part (n := 8) rfl))) rfl rfl ?_
      refine o_vg (v := .agg (cVal d0 A1 c2 A4 c5).toArray) (want_gf (t := 48) rfl rfl) (fun hk => (r_lda agg_api_Value rfl (vs := (cVal d0 A1 c2 A4 c5)) rfl ((S19.fr (G128.trans (Fr.ext F135)) (fun _ h => h)).now.part (n := 8) rfl))) rfl rfl ?_
      obtain ⟨ha147, h⟩ := h
      obtain ⟨ha148, h⟩ := h
      refine o_callg (V := .bool (belowV x93.1 d0)) cf_value_Below (want_gf (t := 48) rfl rfl) (fun hk => (mapv2 (gdT hk) (gdT hk))) (fun hk => (value_Below_c x93.1 (kVal_mk (d := x93.1) (H105.up (G132.trans (Fr.ext F135)) (fun _ h => h) (upc (.inr m116) (upc (.inl (List.Mem.head _)) (fun m hm => Or.inl (List.Mem.tail _ hm))))) (H108.up (G132.trans (Fr.ext F135)) (fun _ h => h) (upc (.inr m116) (upc (.inl (List.Mem.head _)) (fun m hm => Or.inl (List.Mem.tail _ hm)))))) d0 (kVal_mk (d := d0) (H3.up (G127.trans (Fr.ext F135)) (fun _ h => h) (upc (.inr m111) (upc (.inr m75) (fun _ h => .inl h)))) (H6.up (G127.trans (Fr.ext F135)) (fun _ h => h) (upc (.inr m111) (upc (.inr m75) (fun _ h => .inl h))))) (((hL.fr E137).cons (B133.ex F135).lt).cons (B125'.ex F135).lt) (valBelow_ev x93.1 d0 (ha147 hk) (ha148 hk)))) rfl ?_
      intro w146 F146
      have E149 := E137.trans F146
      refine o_vg (v := .bool (!(belowV x93.1 d0))) (want_gf (t := 48) rfl rfl) (fun hk => (r_not (gdT hk))) rfl rfl ?_
      refine o_vg (v := .bool ((x93.2 != (0 : Int)) || (!(belowV x93.1 d0)))) (want_ct (t := 45) rfl rfl) (fun hk => (r_pickOr (gdT hk) rfl (fun hf => (gdT (andM hk (notT hf)))))) rfl rfl ?_
      refine o_v (v := .bool (((checkV d0) == (0 : Int)) && ((x93.2 != (0 : Int)) || (!(belowV x93.1 d0))))) (r_pickAnd rfl (fun ht => (gdT ht)) rfl) rfl rfl rfl ?_
      refine eo_nil_sq ?_
      refine ec_cond rfl (fun hc158 => ?_) (fun hc158 => ?_)
      · replace h := h.1 hc158
        refine ec_seq ?_
        refine ec_region ?_
        refine o_v (v := .bool false) (r_asg rfl) rfl rfl rfl ?_
        refine eo_nil_sq ?_
        refine ec_ret ?_
        refine sq_ret ?_
        subst h
        exact (end1 rfl ⟨_, rfl, E149, rfl⟩)
      · replace h := h.2 hc158
        refine ec_skip ?_
        refine sq_n ?_
        refine ec_seq ?_
        refine ec_seq ?_
        refine ec_region ?_
        refine o_v (v := .int .i64 x58.2) (r_mov rfl) rfl rfl rfl ?_
        refine o_v (v := .bool (x58.2 != (0 : Int))) (r_int rfl rfl rfl) rfl rfl rfl ?_
        refine eo_nil_sq ?_
        refine ec_cond rfl (fun hc159 => ?_) (fun hc159 => ?_)
        · replace h := h.1 hc159
          refine ec_seq ?_
          refine ec_region ?_
          refine o_v (v := .bool (worksV)) (r_mov rfl) rfl rfl rfl ?_
          refine o_v (v := .bool (worksV)) (r_mov rfl) rfl rfl rfl ?_
          refine o_v (v := .agg (cVal d0 A1 c2 A4 c5).toArray) (r_lda agg_api_Value rfl (vs := (cVal d0 A1 c2 A4 c5)) rfl ((S19.fr ((G128.trans (Fr.ext F135)).trans (Fr.ext F146)) (fun _ h => h)).now.part (n := 8) rfl)) (want_t (t := 58) rfl rfl (of_not hc36)) rfl rfl ?_
          refine o_v (v := .agg (cVal d1 A7 c8 A10 c11).toArray) (r_lda agg_api_Value rfl (vs := (cVal d1 A7 c8 A10 c11)) rfl ((S21.fr ((G129.trans (Fr.ext F135)).trans (Fr.ext F146)) (fun _ h => h)).now.part (n := 8) rfl)) (want_t (t := 58) rfl rfl (of_not hc36)) rfl rfl ?_
          obtain ⟨ha162, h⟩ := h
          obtain ⟨ha163, h⟩ := h
          refine o_call cf_value_Below rfl (value_Below_c d0 (kVal_mk (d := d0) (H3.up ((G127.trans (Fr.ext F135)).trans (Fr.ext F146)) (fun _ h => h) (upc (.inr m111) (upc (.inr m75) (fun _ h => .inl h)))) (H6.up ((G127.trans (Fr.ext F135)).trans (Fr.ext F146)) (fun _ h => h) (upc (.inr m111) (upc (.inr m75) (fun _ h => .inl h))))) d1 (kVal_mk (d := d1) (H9.up ((G127.trans (Fr.ext F135)).trans (Fr.ext F146)) (fun _ h => h) (upc (.inr m111) (upc (.inr m75) (fun _ h => .inl h)))) (H12.up ((G127.trans (Fr.ext F135)).trans (Fr.ext F146)) (fun _ h => h) (upc (.inr m111) (upc (.inr m75) (fun _ h => .inl h))))) (((hL.fr E149).cons ((B133.ex F135).ex F146).lt).cons ((B125'.ex F135).ex F146).lt) (valBelow_ev d0 d1 ha162 ha163)) (want_t (t := 58) rfl rfl (of_not hc36)) rfl ?_
          rintro _ w161 ⟨F161, rfl⟩
          have E164 := E149.trans F161
          have G165 := ((G127.trans (Fr.ext F135)).trans (Fr.ext F146)).trans (Fr.ext F161)
          have G166 := ((G128.trans (Fr.ext F135)).trans (Fr.ext F146)).trans (Fr.ext F161)
          have G167 := ((G129.trans (Fr.ext F135)).trans (Fr.ext F146)).trans (Fr.ext F161)
          refine o_v (v := .bool (!(belowV d0 d1))) (r_not rfl) (want_t (t := 58) rfl rfl (of_not hc36)) rfl rfl ?_
          refine o_v (v := .bool (!(belowV d0 d1))) (r_pickT rfl (of_not hc36) rfl) rfl rfl rfl ?_
          refine o_v (v := .bool (!(belowV d0 d1))) (r_mov rfl) rfl rfl rfl ?_
          refine o_vg (v := .agg (cVal d1 A7 c8 A10 c11).toArray) (want_ct (t := 64) rfl rfl) (fun hk => (r_lda agg_api_Value rfl (vs := (cVal d1 A7 c8 A10 c11)) rfl ((S21.fr G167 (fun _ h => h)).now.part (n := 8) rfl))) rfl rfl ?_
          refine o_vg (v := .agg (cVal d0 A1 c2 A4 c5).toArray) (want_ct (t := 64) rfl rfl) (fun hk => (r_lda agg_api_Value rfl (vs := (cVal d0 A1 c2 A4 c5)) rfl ((S19.fr G166 (fun _ h => h)).now.part (n := 8) rfl))) rfl rfl ?_
          obtain ⟨ha174, h⟩ := h
          obtain ⟨ha175, h⟩ := h
          refine o_callg (V := .bool (belowV d1 d0)) cf_value_Below (want_ct (t := 64) rfl rfl) (fun hk => (mapv2 (gdT hk) (gdT hk))) (fun hk => (value_Below_c d1 (kVal_mk (d := d1) (H9.up G165 (fun _ h => h) (upc (.inr m111) (upc (.inr m75) (fun _ h => .inl h)))) (H12.up G165 (fun _ h => h) (upc (.inr m111) (upc (.inr m75) (fun _ h => .inl h))))) d0 (kVal_mk (d := d0) (H3.up G165 (fun _ h => h) (upc (.inr m111) (upc (.inr m75) (fun _ h => .inl h)))) (H6.up G165 (fun _ h => h) (upc (.inr m111) (upc (.inr m75) (fun _ h => .inl h))))) (((hL.fr E164).cons (((B133.ex F135).ex F146).ex F161).lt).cons (((B125'.ex F135).ex F146).ex F161).lt) (valBelow_ev d1 d0 (ha174 hk) (ha175 hk)))) rfl ?_
          intro w173 F173
          have E176 := E164.trans F173
          refine o_vg (v := .bool (!(belowV d1 d0))) (want_ct (t := 64) rfl rfl) (fun hk => (r_not (gdT hk))) rfl rfl ?_
          refine o_v (v := .bool ((!(belowV d0 d1)) && (!(belowV d1 d0)))) (r_pickAnd rfl (fun ht => (gdT ht)) rfl) rfl rfl rfl ?_
          refine o_v (v := .bool ((!(belowV d0 d1)) && (!(belowV d1 d0)))) (r_asg rfl) rfl rfl rfl ?_
          refine eo_nil_sq ?_
          refine ec_ret ?_
          refine sq_ret ?_
          subst h
          exact (end1 rfl ⟨_, rfl, E176, rfl⟩)
        · replace h := h.2 hc159
          refine ec_skip ?_
          refine sq_n ?_
          refine ec_seq ?_
          refine ec_seq ?_
          refine ec_region ?_
          refine o_v (v := .agg (cVal d0 A1 c2 A4 c5).toArray) (r_lda agg_api_Value rfl (vs := (cVal d0 A1 c2 A4 c5)) rfl ((S19.fr ((G128.trans (Fr.ext F135)).trans (Fr.ext F146)) (fun _ h => h)).now.part (n := 8) rfl)) rfl rfl rfl ?_
          refine o_v (v := .agg (cVal x58.1 A68 c69 A71 c72).toArray) (r_lda agg_api_Value rfl (vs := (cVal x58.1 A68 c69 A71 c72)) rfl (((B133.ex F135).ex F146).part (n := 8) rfl)) rfl rfl rfl ?_
          obtain ⟨ha188, h⟩ := h
          obtain ⟨ha189, h⟩ := h
          refine o_call cf_value_Below rfl (value_Below_c d0 (kVal_mk (d := d0) (H3.up ((G127.trans (Fr.ext F135)).trans (Fr.ext F146)) (fun _ h => h) (upc (.inr m111) (upc (.inr m75) (fun _ h => .inl h)))) (H6.up ((G127.trans (Fr.ext F135)).trans (Fr.ext F146)) (fun _ h => h) (upc (.inr m111) (upc (.inr m75) (fun _ h => .inl h))))) x58.1 (kVal_mk (d := x58.1) (H70.up ((G131.trans (Fr.ext F135)).trans (Fr.ext F146)) (fun _ h => h) (upc (.inr m115) (upc (.inr m79) (fun _ h => .inl h)))) (H73.up ((G131.trans (Fr.ext F135)).trans (Fr.ext F146)) (fun _ h => h) (upc (.inr m115) (upc (.inr m79) (fun _ h => .inl h))))) (((hL.fr E149).cons ((B133.ex F135).ex F146).lt).cons ((B125'.ex F135).ex F146).lt) (valBelow_ev d0 x58.1 ha188 ha189)) rfl rfl ?_
          rintro _ w187 ⟨F187, rfl⟩
          have E190 := E149.trans F187
          have G191 := ((G127.trans (Fr.ext F135)).trans (Fr.ext F146)).trans (Fr.ext F187)
          have G192 := ((G128.trans (Fr.ext F135)).trans (Fr.ext F146)).trans (Fr.ext F187)
          have G193 := ((G129.trans (Fr.ext F135)).trans (Fr.ext F146)).trans (Fr.ext F187)
          have G194 := ((G130.trans (Fr.ext F135)).trans (Fr.ext F146)).trans (Fr.ext F187)
          have G195 := ((G131.trans (Fr.ext F135)).trans (Fr.ext F146)).trans (Fr.ext F187)
          refine o_v (v := .bool (!(belowV d0 x58.1))) (r_not rfl) rfl rfl rfl ?_
          refine o_v (v := .bool (!(belowV d0 x58.1))) (r_mov rfl) rfl rfl rfl ?_
          refine o_vg (v := .agg (cVal d1 A7 c8 A10 c11).toArray) (want_cf (t := 74) rfl rfl) (fun hk => (r_lda agg_api_Value rfl (vs := (cVal d1 A7 c8 A10 c11)) rfl ((S21.fr G193 (fun _ h => h)).now.part (n := 8) rfl))) rfl rfl ?_
          refine o_vg (v := .agg (cVal x58.1 A68 c69 A71 c72).toArray) (want_cf (t := 74) rfl rfl) (fun hk => (r_lda agg_api_Value rfl (vs := (cVal x58.1 A68 c69 A71 c72)) rfl ((((B133.ex F135).ex F146).ex F187).part (n := 8) rfl))) rfl rfl ?_
          obtain ⟨ha200, h⟩ := h
          obtain ⟨ha201, h⟩ := h
          refine o_callg (V := .bool (belowV d1 x58.1)) cf_value_Below (want_cf (t := 74) rfl rfl) (fun hk => (mapv2 (gdT hk) (gdT hk))) (fun hk => (value_Below_c d1 (kVal_mk (d := d1) (H9.up G191 (fun _ h => h) (upc (.inr m111) (upc (.inr m75) (fun _ h => .inl h)))) (H12.up G191 (fun _ h => h) (upc (.inr m111) (upc (.inr m75) (fun _ h => .inl h))))) x58.1 (kVal_mk (d := x58.1) (H70.up G195 (fun _ h => h) (upc (.inr m115) (upc (.inr m79) (fun _ h => .inl h)))) (H73.up G195 (fun _ h => h) (upc (.inr m115) (upc (.inr m79) (fun _ h => .inl h))))) (((hL.fr E190).cons (((B133.ex F135).ex F146).ex F187).lt).cons (((B125'.ex F135).ex F146).ex F187).lt) (valBelow_ev d1 x58.1 (ha200 hk) (ha201 hk)))) rfl ?_
          intro w199 F199
          have E202 := E190.trans F199
          refine o_vg (v := .bool (!(belowV d1 x58.1))) (want_cf (t := 74) rfl rfl) (fun hk => (r_not (gdT hk))) rfl rfl ?_
          refine o_v (v := .bool ((!(belowV d0 x58.1)) || (!(belowV d1 x58.1)))) (r_pickOr rfl rfl (fun hf => (gdT (notT hf)))) rfl rfl rfl ?_
          refine o_v (v := .bool ((!(belowV d0 x58.1)) || (!(belowV d1 x58.1)))) (r_mov rfl) rfl rfl rfl ?_
          refine o_vg (v := .agg (cVal x58.1 A68 c69 A71 c72).toArray) (want_cf (t := 80) rfl rfl) (fun hk => (r_lda agg_api_Value rfl (vs := (cVal x58.1 A68 c69 A71 c72)) rfl (((((B133.ex F135).ex F146).ex F187).ex F199).part (n := 8) rfl))) rfl rfl ?_
          obtain ⟨ha212, h⟩ := h
          refine o_callg (V := .int .i64 (checkV x58.1)) cf_value_Check (want_cf (t := 80) rfl rfl) (fun hk => (mapv1 (gdT hk))) (fun hk => (value_Check_c x58.1 (kVal_mk (d := x58.1) (H70.up (G195.trans (Fr.ext F199)) (fun _ h => h) (upc (.inr m115) (upc (.inr m79) (fun _ h => .inl h)))) (H73.up (G195.trans (Fr.ext F199)) (fun _ h => h) (upc (.inr m115) (upc (.inr m79) (fun _ h => .inl h))))) (((hL.fr E202).cons ((((B133.ex F135).ex F146).ex F187).ex F199).lt).cons ((((B125'.ex F135).ex F146).ex F187).ex F199).lt) (valCheck_ev x58.1 (ha212 hk)))) rfl ?_
          intro w211 F211
          have E213 := E202.trans F211
          refine o_vg (v := .bool ((checkV x58.1) != (0 : Int))) (want_cf (t := 80) rfl rfl) (fun hk => (r_int (gdT hk) rfl rfl)) rfl rfl ?_
          refine o_v (v := .bool (((!(belowV d0 x58.1)) || (!(belowV d1 x58.1))) || ((checkV x58.1) != (0 : Int)))) (r_pickOr rfl rfl (fun hf => (gdT (notT hf)))) rfl rfl rfl ?_
          refine eo_nil_sq ?_
          refine ec_cond rfl (fun hc222 => ?_) (fun hc222 => ?_)
          · replace h := h.1 hc222
            refine ec_seq ?_
            refine ec_region ?_
            refine o_v (v := .bool false) (r_asg rfl) rfl rfl rfl ?_
            refine eo_nil_sq ?_
            refine ec_ret ?_
            refine sq_ret ?_
            subst h
            exact (end1 rfl ⟨_, rfl, E213, rfl⟩)
          · replace h := h.2 hc222
            refine ec_skip ?_
            refine sq_n ?_
            refine ec_seq ?_
            refine ec_region ?_
            refine o_v (v := .agg (cVal d0 A1 c2 A4 c5).toArray) (r_lda agg_api_Value rfl (vs := (cVal d0 A1 c2 A4 c5)) rfl ((S19.fr ((G192.trans (Fr.ext F199)).trans (Fr.ext F211)) (fun _ h => h)).now.part (n := 8) rfl)) rfl rfl rfl ?_
            refine o_v (v := .agg (cVal d2 A13 c14 A16 c17).toArray) (r_lda agg_api_Value rfl (vs := (cVal d2 A13 c14 A16 c17)) rfl ((S25.fr ((G194.trans (Fr.ext F199)).trans (Fr.ext F211)) (fun _ h => h)).now.part (n := 8) rfl)) rfl rfl rfl ?_
            obtain ⟨ha225, h⟩ := h
            obtain ⟨ha226, h⟩ := h
            refine o_call cf_value_Below rfl (value_Below_c d0 (kVal_mk (d := d0) (H3.up ((G191.trans (Fr.ext F199)).trans (Fr.ext F211)) (fun _ h => h) (upc (.inr m111) (upc (.inr m75) (fun _ h => .inl h)))) (H6.up ((G191.trans (Fr.ext F199)).trans (Fr.ext F211)) (fun _ h => h) (upc (.inr m111) (upc (.inr m75) (fun _ h => .inl h))))) d2 (kVal_mk (d := d2) (H15.up ((G191.trans (Fr.ext F199)).trans (Fr.ext F211)) (fun _ h => h) (upc (.inr m111) (upc (.inr m75) (fun _ h => .inl h)))) (H18.up ((G191.trans (Fr.ext F199)).trans (Fr.ext F211)) (fun _ h => h) (upc (.inr m111) (upc (.inr m75) (fun _ h => .inl h))))) (((hL.fr E213).cons (((((B133.ex F135).ex F146).ex F187).ex F199).ex F211).lt).cons (((((B125'.ex F135).ex F146).ex F187).ex F199).ex F211).lt) (valBelow_ev d0 d2 ha225 ha226)) rfl rfl ?_
            rintro _ w224 ⟨F224, rfl⟩
            have E227 := E213.trans F224
            have G228 := ((G191.trans (Fr.ext F199)).trans (Fr.ext F211)).trans (Fr.ext F224)
            have G230 := ((G193.trans (Fr.ext F199)).trans (Fr.ext F211)).trans (Fr.ext F224)
            have G231 := ((G194.trans (Fr.ext F199)).trans (Fr.ext F211)).trans (Fr.ext F224)
            have G232 := ((G195.trans (Fr.ext F199)).trans (Fr.ext F211)).trans (Fr.ext F224)
            refine o_v (v := .bool (belowV d0 d2)) (r_mov rfl) rfl rfl rfl ?_
            refine o_vg (v := .agg (cVal d1 A7 c8 A10 c11).toArray) (want_ct (t := 88) rfl rfl) (fun hk => (r_lda agg_api_Value rfl (vs := (cVal d1 A7 c8 A10 c11)) rfl ((S21.fr G230 (fun _ h => h)).now.part (n := 8) rfl))) rfl rfl ?_
            refine o_vg (v := .agg (cVal d2 A13 c14 A16 c17).toArray) (want_ct (t := 88) rfl rfl) (fun hk => (r_lda agg_api_Value rfl (vs := (cVal d2 A13 c14 A16 c17)) rfl ((S25.fr G231 (fun _ h => h)).now.part (n := 8) rfl))) rfl rfl ?_
            obtain ⟨ha237, h⟩ := h
            obtain ⟨ha238, h⟩ := h
            refine o_callg (V := .bool (belowV d1 d2)) cf_value_Below (want_ct (t := 88) rfl rfl) (fun hk => (mapv2 (gdT hk) (gdT hk))) (fun hk => (value_Below_c d1 (kVal_mk (d := d1) (H9.up G228 (fun _ h => h) (upc (.inr m111) (upc (.inr m75) (fun _ h => .inl h)))) (H12.up G228 (fun _ h => h) (upc (.inr m111) (upc (.inr m75) (fun _ h => .inl h))))) d2 (kVal_mk (d := d2) (H15.up G228 (fun _ h => h) (upc (.inr m111) (upc (.inr m75) (fun _ h => .inl h)))) (H18.up G228 (fun _ h => h) (upc (.inr m111) (upc (.inr m75) (fun _ h => .inl h))))) (((hL.fr E227).cons ((((((B133.ex F135).ex F146).ex F187).ex F199).ex F211).ex F224).lt).cons ((((((B125'.ex F135).ex F146).ex F187).ex F199).ex F211).ex F224).lt) (valBelow_ev d1 d2 (ha237 hk) (ha238 hk)))) rfl ?_
            intro w236 F236
            have E239 := E227.trans F236
            have B246 := ((((((B133.ex F135).ex F146).ex F187).ex F199).ex F211).ex F224).ex F236
            have B247 := ((((((B125'.ex F135).ex F146).ex F187).ex F199).ex F211).ex F224).ex F236
            refine o_v (v := .bool ((belowV d0 d2) && (belowV d1 d2))) (r_pickAnd rfl (fun ht => (gdT ht)) rfl) rfl rfl rfl ?_
            refine o_v (v := .bool ((belowV d0 d2) && (belowV d1 d2))) (r_asg rfl) rfl rfl rfl ?_
            refine eo_nil_sq ?_
            refine ec_seq ?_
            refine ec_region ?_
            refine o_v (v := .bool (worksV)) (r_mov rfl) rfl rfl rfl ?_
            refine o_v (v := .bool (worksV)) (r_mov rfl) rfl rfl rfl ?_
            refine o_v (v := .bool ((belowV d0 d2) && (belowV d1 d2))) (r_mov rfl) (want_t (t := 94) rfl rfl (of_not hc36)) rfl rfl ?_
            refine o_v (v := .agg (cVal x58.1 A68 c69 A71 c72).toArray) (r_lda agg_api_Value rfl (vs := (cVal x58.1 A68 c69 A71 c72)) rfl (B246.part (n := 8) rfl)) (want_t (t := 94) rfl rfl (of_not hc36)) rfl rfl ?_
            refine o_v (v := .agg (cVal d2 A13 c14 A16 c17).toArray) (r_lda agg_api_Value rfl (vs := (cVal d2 A13 c14 A16 c17)) rfl ((S25.fr (G231.trans (Fr.ext F236)) (fun _ h => h)).now.part (n := 8) rfl)) (want_t (t := 94) rfl rfl (of_not hc36)) rfl rfl ?_
            obtain ⟨ha249, h⟩ := h
            obtain ⟨ha250, h⟩ := h
            refine o_call cf_value_Below rfl (value_Below_c x58.1 (kVal_mk (d := x58.1) (H70.up (G232.trans (Fr.ext F236)) (fun _ h => h) (upc (.inr m115) (upc (.inr m79) (fun _ h => .inl h)))) (H73.up (G232.trans (Fr.ext F236)) (fun _ h => h) (upc (.inr m115) (upc (.inr m79) (fun _ h => .inl h))))) d2 (kVal_mk (d := d2) (H15.up (G228.trans (Fr.ext F236)) (fun _ h => h) (upc (.inr m111) (upc (.inr m75) (fun _ h => .inl h)))) (H18.up (G228.trans (Fr.ext F236)) (fun _ h => h) (upc (.inr m111) (upc (.inr m75) (fun _ h => .inl h))))) (((hL.fr E239).cons B246.lt).cons B247.lt) (valBelow_ev x58.1 d2 ha249 ha250)) (want_t (t := 94) rfl rfl (of_not hc36)) rfl ?_
            rintro _ w248 ⟨F248, rfl⟩
            have E251 := E239.trans F248
            refine o_v (v := .bool (((belowV d0 d2) && (belowV d1 d2)) == (belowV x58.1 d2))) (r_boolEq un_bool rfl rfl) (want_t (t := 94) rfl rfl (of_not hc36)) rfl rfl ?_
            refine o_v (v := .bool (((belowV d0 d2) && (belowV d1 d2)) == (belowV x58.1 d2))) (r_pickT rfl (of_not hc36) rfl) rfl rfl rfl ?_
            refine o_v (v := .bool (((belowV d0 d2) && (belowV d1 d2)) == (belowV x58.1 d2))) (r_asg rfl) rfl rfl rfl ?_
            refine eo_nil_sq ?_
            refine ec_ret ?_
            subst h
            exact (end1 rfl ⟨_, rfl, E251, rfl⟩)
end Go.Proofs.Ytdojgmmpcdbeoaa
