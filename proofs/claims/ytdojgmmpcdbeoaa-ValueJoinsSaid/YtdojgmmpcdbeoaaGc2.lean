/- The law ValueJoins: what it comes to. -/
import Derived.Test.YtdojgmmpcdbeoaaGb
namespace Go.Proofs.Ytdojgmmpcdbeoaa
open Go Go.RowKit
set_option linter.unusedVariables false
set_option linter.unusedSimpArgs false
def law06_ValueJoins_raw (d0 : Val) (d1 : Val) (d2 : Val) (y : Bool) : Prop :=
  ((!(worksV)) = true → (y = false)) ∧ ((!(worksV)) = false → (((!(((fewV d0) && (fewV d1)) && (fewV d2))) = true → (y = (worksV))) ∧ ((!(((fewV d0) && (fewV d1)) && (fewV d2))) = false → ((sm d0) ∧ ((sm d0) ∧ (∃ x58, x58 = (joinV d0 d0) ∧ ((sm d0) ∧ ((sm d1) ∧ (∃ x93, x93 = (joinV d0 d1) ∧ ((sm d1) ∧ ((sm d0) ∧ (∃ x136, x136 = (joinV d1 d0) ∧ ((sm d1) ∧ ((sm d2) ∧ (∃ x187, x187 = (joinV d1 d2) ∧ ((sm x93.1) ∧ ((sm d2) ∧ (∃ x246, x246 = (joinV x93.1 d2) ∧ ((sm d0) ∧ ((sm x187.1) ∧ (∃ x313, x313 = (joinV d0 x187.1) ∧ ((sm d0) ∧ ((((!((!((x58.2 == (0 : Int)) == ((checkV d0) == (0 : Int)))) || (x93.2 != x136.2))) && (x93.2 == (0 : Int))) = true → sm x93.1) ∧ ((((!(((!((x58.2 == (0 : Int)) == ((checkV d0) == (0 : Int)))) || (x93.2 != x136.2)) || ((x93.2 == (0 : Int)) && (!(sameV x93.1 x136.1))))) && (x58.2 == (0 : Int))) = true → sm x58.1) ∧ ((((((!((x58.2 == (0 : Int)) == ((checkV d0) == (0 : Int)))) || (x93.2 != x136.2)) || ((x93.2 == (0 : Int)) && (!(sameV x93.1 x136.1)))) || ((x58.2 == (0 : Int)) && (!(sameV x58.1 d0)))) = true → (y = false)) ∧ (((((!((x58.2 == (0 : Int)) == ((checkV d0) == (0 : Int)))) || (x93.2 != x136.2)) || ((x93.2 == (0 : Int)) && (!(sameV x93.1 x136.1)))) || ((x58.2 == (0 : Int)) && (!(sameV x58.1 d0)))) = false → ((((x93.2 != (0 : Int)) || (x187.2 != (0 : Int))) = true → (y = (worksV))) ∧ (((x93.2 != (0 : Int)) || (x187.2 != (0 : Int))) = false → ((((x246.2 == (0 : Int)) && (x313.2 == (0 : Int))) = true → sm x246.1) ∧ (y = (((x246.2 == (0 : Int)) && (x313.2 == (0 : Int))) && (sameV x246.1 x313.1))))))))))))))))))))))))))))))))
set_option maxRecDepth 20000 in
set_option maxHeartbeats 4000000 in
theorem law06_ValueJoins_c {L : List Nat} {w : World} {csP0 : List Value} (d0 : Val) (HP0 : Stb L w (fun w => kVal.r w csP0 d0)) {csP1 : List Value} (d1 : Val) (HP1 : Stb L w (fun w => kVal.r w csP1 d1)) {csP2 : List Value} (d2 : Val) (HP2 : Stb L w (fun w => kVal.r w csP2 d2)) (hL : Lt L w) {y : Bool} (h : law06_ValueJoins_raw d0 d1 d2 y) :
    Calls Try.prog 4 [.agg csP0.toArray, .agg csP1.toArray, .agg csP2.toArray].toArray w (Ret fun v w' => Ext w w' ∧ v = .bool y) := by
  obtain ⟨A1, c2, A4, c5, rfl, H3, H6⟩ := kVal_open HP0
  obtain ⟨A7, c8, A10, c11, rfl, H9, H12⟩ := kVal_open HP1
  obtain ⟨A13, c14, A16, c17, rfl, H15, H18⟩ := kVal_open HP2
  unfold law06_ValueJoins_raw at h
  refine calls_ec Try.func4 rfl rfl rfl ?_
  refine ec_seq ?_
  refine ec_region ?_
  refine o_box (cs := (cVal d0 A1 c2 A4 c5)) rfl rfl rfl ?_
  intro b19 w19 e19 F19 B19
  have S19 := B19.stb (nin hL e19)
  have G20 : Fr L w w19 := Fr.ext F19
  refine o_box (cs := (cVal d1 A7 c8 A10 c11)) rfl rfl rfl ?_
  intro b21 w21 e21 F21 B21
  have S21 := B21.stb (nin (hL.fr F19) e21)
  have E22 := F19.trans F21
  have G24 : Fr L w19 w21 := Fr.ext F21
  refine o_box (cs := (cVal d2 A13 c14 A16 c17)) rfl rfl rfl ?_
  intro b25 w25 e25 F25 B25
  have S25 := B25.stb (nin (hL.fr E22) e25)
  have E26 := E22.trans F25
  have G29 : Fr L w21 w25 := Fr.ext F25
  refine o_v (v := .bool false) (r_asg rfl) rfl rfl rfl ?_
  refine eo_nil_sq ?_
  refine ec_seq ?_
  refine ec_region ?_
  refine o_call cf_law06_works rfl (law06_works_c (hL.fr E26) (works_ev)) rfl rfl ?_
  rintro _ w30 ⟨F30, rfl⟩
  have E31 := E26.trans F30
  have G35 : Fr L w25 w30 := Fr.ext F30
  refine o_v (v := .bool (worksV)) (r_asg rfl) rfl rfl rfl ?_
  refine eo_nil_sq ?_
  refine ec_seq ?_
  refine ec_seq ?_
  refine ec_region ?_
  refine o_v (v := .bool (worksV)) (r_mov rfl) rfl rfl rfl ?_
  refine o_v (v := .bool (!(worksV))) (r_not rfl) rfl rfl rfl ?_
  refine eo_nil_sq ?_
  refine ec_cond rfl (fun hc36 => ?_) (fun hc36 => ?_)
  · replace h := h.1 hc36
    refine ec_seq ?_
    refine ec_region ?_
    refine o_v (v := .bool false) (r_asg rfl) rfl rfl rfl ?_
    refine eo_nil_sq ?_
    refine ec_ret ?_
    refine sq_ret ?_
    subst h
    exact (end1 rfl ⟨_, rfl, E31, rfl⟩)
  · replace h := h.2 hc36
    refine ec_skip ?_
    refine sq_n ?_
    refine ec_seq ?_
    refine ec_region ?_
    refine o_v (v := .agg (cVal d0 A1 c2 A4 c5).toArray) (r_lda agg_api_Value rfl (vs := (cVal d0 A1 c2 A4 c5)) rfl ((S19.fr ((G24.trans (Fr.ext F25)).trans (Fr.ext F30)) (fun _ h => h)).now.part (n := 8) rfl)) rfl rfl rfl ?_
    refine o_call cf_law06_Few rfl (law06_Few_c d0 (kVal_mk (d := d0) (H3.fr (((G20.trans (Fr.ext F21)).trans (Fr.ext F25)).trans (Fr.ext F30)) (fun _ h => h)) (H6.fr (((G20.trans (Fr.ext F21)).trans (Fr.ext F25)).trans (Fr.ext F30)) (fun _ h => h))) (hL.fr E31) (few_ev d0)) rfl rfl ?_
    rintro _ w39 ⟨F39, rfl⟩
    have E40 := E31.trans F39
    have G41 := (((G20.trans (Fr.ext F21)).trans (Fr.ext F25)).trans (Fr.ext F30)).trans (Fr.ext F39)
    refine o_v (v := .bool (fewV d0)) (r_mov rfl) rfl rfl rfl ?_
    refine o_vg (v := .agg (cVal d1 A7 c8 A10 c11).toArray) (want_ct (t := 26) rfl rfl) (fun hk => (r_lda agg_api_Value rfl (vs := (cVal d1 A7 c8 A10 c11)) rfl ((S21.fr ((G29.trans (Fr.ext F30)).trans (Fr.ext F39)) (fun _ h => h)).now.part (n := 8) rfl))) rfl rfl ?_
    refine o_callg (V := .bool (fewV d1)) cf_law06_Few (want_ct (t := 26) rfl rfl) (fun hk => (mapv1 (gdT hk))) (fun hk => (law06_Few_c d1 (kVal_mk (d := d1) (H9.fr G41 (fun _ h => h)) (H12.fr G41 (fun _ h => h))) (hL.fr E40) (few_ev d1))) rfl ?_
    intro w45 F45
    have E46 := E40.trans F45
    have G48 := (((G24.trans (Fr.ext F25)).trans (Fr.ext F30)).trans (Fr.ext F39)).trans (Fr.ext F45)
    refine o_v (v := .bool ((fewV d0) && (fewV d1))) (r_pickAnd rfl (fun ht => (gdT ht)) rfl) rfl rfl rfl ?_
    refine o_v (v := .bool ((fewV d0) && (fewV d1))) (r_mov rfl) rfl rfl rfl ?_
    refine o_vg (v := .agg (cVal d2 A13 c14 A16 c17).toArray) (want_ct (t := 30) rfl rfl) (fun hk => (r_lda agg_api_Value rfl (vs := (cVal d2 A13 c14 A16 c17)) rfl ((S25.fr ((G35.trans (Fr.ext F39)).trans (Fr.ext F45)) (fun _ h => h)).now.part (n := 8) rfl))) rfl rfl ?_
    refine o_callg (V := .bool (fewV d2)) cf_law06_Few (want_ct (t := 30) rfl rfl) (fun hk => (mapv1 (gdT hk))) (fun hk => (law06_Few_c d2 (kVal_mk (d := d2) (H15.fr (G41.trans (Fr.ext F45)) (fun _ h => h)) (H18.fr (G41.trans (Fr.ext F45)) (fun _ h => h))) (hL.fr E46) (few_ev d2))) rfl ?_
    intro w51 F51
    have E52 := E46.trans F51
    have G55 := (((G29.trans (Fr.ext F30)).trans (Fr.ext F39)).trans (Fr.ext F45)).trans (Fr.ext F51)
    refine o_v (v := .bool (((fewV d0) && (fewV d1)) && (fewV d2))) (r_pickAnd rfl (fun ht => (gdT ht)) rfl) rfl rfl rfl ?_
    refine o_v (v := .bool (((fewV d0) && (fewV d1)) && (fewV d2))) (r_asg rfl) rfl rfl rfl ?_
    refine eo_nil_sq ?_
    refine ec_seq ?_
    refine ec_seq ?_
    refine ec_region ?_
    refine o_v (v := .bool (((fewV d0) && (fewV d1)) && (fewV d2))) (r_mov rfl) rfl rfl rfl ?_
    refine o_v (v := .bool (!(((fewV d0) && (fewV d1)) && (fewV d2)))) (r_not rfl) rfl rfl rfl ?_
    refine eo_nil_sq ?_
    refine ec_cond rfl (fun hc57 => ?_) (fun hc57 => ?_)
    · replace h := h.1 hc57
      refine ec_seq ?_
      refine ec_region ?_
      refine o_v (v := .bool (worksV)) (r_mov rfl) rfl rfl rfl ?_
      refine o_v (v := .bool (worksV)) (r_asg rfl) rfl rfl rfl ?_
      refine eo_nil_sq ?_
      refine ec_ret ?_
      refine sq_ret ?_
      subst h
      exact (end1 rfl ⟨_, rfl, E52, rfl⟩)
    · replace h := h.2 hc57
      refine ec_skip ?_
      refine sq_n ?_
      refine ec_seq ?_
      refine ec_region ?_
      refine o_v (v := .agg (cVal d0 A1 c2 A4 c5).toArray) (r_lda agg_api_Value rfl (vs := (cVal d0 A1 c2 A4 c5)) rfl ((S19.fr (G48.trans (Fr.ext F51)) (fun _ h => h)).now.part (n := 8) rfl)) rfl rfl rfl ?_
      refine o_v (v := .agg (cVal d0 A1 c2 A4 c5).toArray) (r_lda agg_api_Value rfl (vs := (cVal d0 A1 c2 A4 c5)) rfl ((S19.fr (G48.trans (Fr.ext F51)) (fun _ h => h)).now.part (n := 8) rfl)) rfl rfl rfl ?_
      obtain ⟨ha59, h⟩ := h
      obtain ⟨ha60, h⟩ := h
      obtain ⟨x58, hx58, h⟩ := h
      refine o_call cf_value_Join rfl (value_Join_c d0 (kVal_mk (d := d0) (H3.fr ((G41.trans (Fr.ext F45)).trans (Fr.ext F51)) (fun _ h => h)) (H6.fr ((G41.trans (Fr.ext F45)).trans (Fr.ext F51)) (fun _ h => h))) d0 (kVal_mk (d := d0) (H3.fr ((G41.trans (Fr.ext F45)).trans (Fr.ext F51)) (fun _ h => h)) (H6.fr ((G41.trans (Fr.ext F45)).trans (Fr.ext F51)) (fun _ h => h))) (hL.fr E52) (eq_ev hx58 (valJoin_ev d0 d0 ha59 ha60))) rfl rfl ?_
      rintro _ w58 ⟨F58, cs61, rfl, H62⟩
      have E63 := E52.trans F58
      have G67 := (((G35.trans (Fr.ext F39)).trans (Fr.ext F45)).trans (Fr.ext F51)).trans (Fr.ext F58)
      obtain ⟨A68, c69, A71, c72, rfl, H70, H73⟩ := kVal_open H62
      refine o_v (v := .tuple #[.agg (cVal x58.1 A68 c69 A71 c72).toArray, .int .i64 x58.2]) (r_mov rfl) rfl rfl rfl ?_
      refine o_v (v := .agg (cVal x58.1 A68 c69 A71 c72).toArray) (r_ext rfl rfl) rfl rfl rfl ?_
      refine o_v (v := .int .i64 x58.2) (r_ext rfl rfl) rfl rfl rfl ?_
      refine o_alloc zero_api_Value rfl rfl rfl ?_
      intro b74 w74 e74 F74 B74
      have n74 : w.heap.size ≤ b74 := by rw [e74]; exact E63.size
      have m75 : w.heap.size ≤ b74 := by rw [e74]; exact (((G41.trans (Fr.ext F45)).trans (Fr.ext F51)).trans (Fr.ext F58)).size
      have m76 : w19.heap.size ≤ b74 := by rw [e74]; exact ((G48.trans (Fr.ext F51)).trans (Fr.ext F58)).size
      have m77 : w21.heap.size ≤ b74 := by rw [e74]; exact (G55.trans (Fr.ext F58)).size
      have m78 : w25.heap.size ≤ b74 := by rw [e74]; exact G67.size
      have m79 : w58.heap.size ≤ b74 := Nat.le_of_eq e74.symm
      have E80 := E63.trans F74
      have G81 := (((G41.trans (Fr.ext F45)).trans (Fr.ext F51)).trans (Fr.ext F58)).trans (Fr.ext F74)
      have G85 : Fr L w58 w74 := Fr.ext F74
      refine o_store rfl B74 (vs := (cVal x58.1 A68 c69 A71 c72)) rfl sz_api_Value rfl rfl rfl ?_
      intro w86 F86 B86
      have E87 := Ext.st E80 F86 (by simp; omega)
      have G88 : Fr L w w86 := G81.stp F86 (upc (.inr m75) (fun m hm => by cases hm))
      have G89 : Fr L w19 w86 := (((G48.trans (Fr.ext F51)).trans (Fr.ext F58)).trans (Fr.ext F74)).stp F86 (upc (.inr m76) (fun m hm => by cases hm))
      have G90 : Fr L w21 w86 := ((G55.trans (Fr.ext F58)).trans (Fr.ext F74)).stp F86 (upc (.inr m77) (fun m hm => by cases hm))
      have G91 : Fr L w25 w86 := (G67.trans (Fr.ext F74)).stp F86 (upc (.inr m78) (fun m hm => by cases hm))
      have G92 : Fr L w58 w86 := G85.stp F86 (upc (.inr m79) (fun m hm => by cases hm))
      have B86' : Blk w86 b74 _ (cVal x58.1 A68 c69 A71 c72) := B86
      refine o_v (v := .int .i64 x58.2) (r_asg rfl) rfl rfl rfl ?_
      refine eo_nil_sq ?_
      refine ec_seq ?_
      refine ec_region ?_
      refine o_v (v := .agg (cVal d0 A1 c2 A4 c5).toArray) (r_lda agg_api_Value rfl (vs := (cVal d0 A1 c2 A4 c5)) rfl ((S19.fr G89 (fun _ h => h)).now.part (n := 8) rfl)) rfl rfl rfl ?_
      refine o_v (v := .agg (cVal d1 A7 c8 A10 c11).toArray) (r_lda agg_api_Value rfl (vs := (cVal d1 A7 c8 A10 c11)) rfl ((S21.fr G90 (fun _ h => h)).now.part (n := 8) rfl)) rfl rfl rfl ?_
      obtain ⟨ha94, h⟩ := h
      obtain ⟨ha95, h⟩ := h
      obtain ⟨x93, hx93, h⟩ := h
      refine o_call cf_value_Join rfl (value_Join_c d0 (kVal_mk (d := d0) (H3.up G88 (fun _ h => h) (upc (.inr m75) (fun _ h => .inl h))) (H6.up G88 (fun _ h => h) (upc (.inr m75) (fun _ h => .inl h)))) d1 (kVal_mk (d := d1) (H9.up G88 (fun _ h => h) (upc (.inr m75) (fun _ h => .inl h))) (H12.up G88 (fun _ h => h) (upc (.inr m75) (fun _ h => .inl h)))) ((hL.fr E87).cons B86'.lt) (eq_ev hx93 (valJoin_ev d0 d1 ha94 ha95))) rfl rfl ?_
      rintro _ w93 ⟨F93, cs96, rfl, H97⟩
      have E98 := E87.trans F93
      obtain ⟨A105, c106, A108, c109, rfl, H107, H110⟩ := kVal_open H97
      refine o_v (v := .tuple #[.agg (cVal x93.1 A105 c106 A108 c109).toArray, .int .i64 x93.2]) (r_mov rfl) rfl rfl rfl ?_
      refine o_v (v := .agg (cVal x93.1 A105 c106 A108 c109).toArray) (r_ext rfl rfl) rfl rfl rfl ?_
      refine o_v (v := .int .i64 x93.2) (r_ext rfl rfl) rfl rfl rfl ?_
      refine o_alloc zero_api_Value rfl rfl rfl ?_
      intro b111 w111 e111 F111 B111
      have n111 : w.heap.size ≤ b111 := by rw [e111]; exact E98.size
      have q112 : b74 < b111 := by rw [e111]; exact (B86'.ex F93).lt
      have m113 : w.heap.size ≤ b111 := by rw [e111]; exact (G88.trans (Fr.ext F93)).size
      have m114 : w19.heap.size ≤ b111 := by rw [e111]; exact (G89.trans (Fr.ext F93)).size
      have m115 : w21.heap.size ≤ b111 := by rw [e111]; exact (G90.trans (Fr.ext F93)).size
      have m116 : w25.heap.size ≤ b111 := by rw [e111]; exact (G91.trans (Fr.ext F93)).size
      have m117 : w58.heap.size ≤ b111 := by rw [e111]; exact (G92.trans (Fr.ext F93)).size
      have m118 : w93.heap.size ≤ b111 := Nat.le_of_eq e111.symm
      have E119 := E98.trans F111
      have G125 : Fr (b74 :: L) w93 w111 := Fr.ext F111
      refine o_store rfl B111 (vs := (cVal x93.1 A105 c106 A108 c109)) rfl sz_api_Value rfl rfl rfl ?_
      intro w127 F127 B127
      have E128 := Ext.st E119 F127 (by simp; omega)
      have G129 : Fr L w w127 := ((G88.trans (Fr.ext F93)).trans (Fr.ext F111)).stp F127 (upc (.inr m113) (fun m hm => by cases hm))
      have G130 : Fr L w19 w127 := ((G89.trans (Fr.ext F93)).trans (Fr.ext F111)).stp F127 (upc (.inr m114) (fun m hm => by cases hm))
      have G131 : Fr L w21 w127 := ((G90.trans (Fr.ext F93)).trans (Fr.ext F111)).stp F127 (upc (.inr m115) (fun m hm => by cases hm))
      have G132 : Fr L w25 w127 := ((G91.trans (Fr.ext F93)).trans (Fr.ext F111)).stp F127 (upc (.inr m116) (fun m hm => by cases hm))
      have G133 : Fr L w58 w127 := ((G92.trans (Fr.ext F93)).trans (Fr.ext F111)).stp F127 (upc (.inr m117) (fun m hm => by cases hm))
      have G134 : Fr (b74 :: L) w93 w127 := G125.stp F127 (upc (.inr m118) (fun m hm => by cases hm))
      have B135 := ((B86'.ex F93).ex F111).fr F127 (by simp; omega)
      have B127' : Blk w127 b111 _ (cVal x93.1 A105 c106 A108 c109) := B127
      refine o_v (v := .int .i64 x93.2) (r_asg rfl) rfl rfl rfl ?_
      refine eo_nil_sq ?_
      refine ec_seq ?_
      refine ec_region ?_
      refine o_v (v := .agg (cVal d1 A7 c8 A10 c11).toArray) (r_lda agg_api_Value rfl (vs := (cVal d1 A7 c8 A10 c11)) rfl ((S21.fr G131 (fun _ h => h)).now.part (n := 8) rfl)) rfl rfl rfl ?_
      refine o_v (v := .agg (cVal d0 A1 c2 A4 c5).toArray) (r_lda agg_api_Value rfl (vs := (cVal d0 A1 c2 A4 c5)) rfl ((S19.fr G130 (fun _ h => h)).now.part (n := 8) rfl)) rfl rfl rfl ?_
      obtain ⟨ha137, h⟩ := h
      obtain ⟨ha138, h⟩ := h
      obtain ⟨x136, hx136, h⟩ := h
      refine o_call cf_value_Join rfl (value_Join_c d1 (kVal_mk (d := d1) (H9.up G129 (fun _ h => h) (upc (.inr m113) (upc (.inr m75) (fun _ h => .inl h)))) (H12.up G129 (fun _ h => h) (upc (.inr m113) (upc (.inr m75) (fun _ h => .inl h))))) d0 (kVal_mk (d := d0) (H3.up G129 (fun _ h => h) (upc (.inr m113) (upc (.inr m75) (fun _ h => .inl h)))) (H6.up G129 (fun _ h => h) (upc (.inr m113) (upc (.inr m75) (fun _ h => .inl h))))) (((hL.fr E128).cons B135.lt).cons B127'.lt) (eq_ev hx136 (valJoin_ev d1 d0 ha137 ha138))) rfl rfl ?_
      rintro _ w136 ⟨F136, cs139, rfl, H140⟩
      have E141 := E128.trans F136
      obtain ⟨A150, c151, A153, c154, rfl, H152, H155⟩ := kVal_open H140
      refine o_v (v := .tuple #[.agg (cVal x136.1 A150 c151 A153 c154).toArray, .int .i64 x136.2]) (r_mov rfl) rfl rfl rfl ?_
      refine o_v (v := .agg (cVal x136.1 A150 c151 A153 c154).toArray) (r_ext rfl rfl) rfl rfl rfl ?_
      refine o_v (v := .int .i64 x136.2) (r_ext rfl rfl) rfl rfl rfl ?_
      refine o_alloc zero_api_Value rfl rfl rfl ?_
      intro b156 w156 e156 F156 B156
      have n156 : w.heap.size ≤ b156 := by rw [e156]; exact E141.size
      have q157 : b74 < b156 := by rw [e156]; exact (B135.ex F136).lt
      have q158 : b111 < b156 := by rw [e156]; exact (B127'.ex F136).lt
      have m159 : w.heap.size ≤ b156 := by rw [e156]; exact (G129.trans (Fr.ext F136)).size
      have m160 : w19.heap.size ≤ b156 := by rw [e156]; exact (G130.trans (Fr.ext F136)).size
      have m161 : w21.heap.size ≤ b156 := by rw [e156]; exact (G131.trans (Fr.ext F136)).size
      have m162 : w25.heap.size ≤ b156 := by rw [e156]; exact (G132.trans (Fr.ext F136)).size
      have m163 : w58.heap.size ≤ b156 := by rw [e156]; exact (G133.trans (Fr.ext F136)).size
      have m164 : w93.heap.size ≤ b156 := by rw [e156]; exact (G134.trans (Fr.ext F136)).size
      have m165 : w136.heap.size ≤ b156 := Nat.le_of_eq e156.symm
      have E166 := E141.trans F156
      have G173 : Fr (b111 :: (b74 :: L)) w136 w156 := Fr.ext F156
      refine o_store rfl B156 (vs := (cVal x136.1 A150 c151 A153 c154)) rfl sz_api_Value rfl rfl rfl ?_
      intro w176 F176 B176
      have E177 := Ext.st E166 F176 (by simp; omega)
      have G178 : Fr L w w176 := ((G129.trans (Fr.ext F136)).trans (Fr.ext F156)).stp F176 (upc (.inr m159) (fun m hm => by cases hm))
      have G179 : Fr L w19 w176 := ((G130.trans (Fr.ext F136)).trans (Fr.ext F156)).stp F176 (upc (.inr m160) (fun m hm => by cases hm))
      have G180 : Fr L w21 w176 := ((G131.trans (Fr.ext F136)).trans (Fr.ext F156)).stp F176 (upc (.inr m161) (fun m hm => by cases hm))
      have G181 : Fr L w25 w176 := ((G132.trans (Fr.ext F136)).trans (Fr.ext F156)).stp F176 (upc (.inr m162) (fun m hm => by cases hm))
      have G182 : Fr L w58 w176 := ((G133.trans (Fr.ext F136)).trans (Fr.ext F156)).stp F176 (upc (.inr m163) (fun m hm => by cases hm))
      have G183 : Fr (b74 :: L) w93 w176 := ((G134.trans (Fr.ext F136)).trans (Fr.ext F156)).stp F176 (upc (.inr m164) (fun m hm => by cases hm))
      have G184 : Fr (b111 :: (b74 :: L)) w136 w176 := G173.stp F176 (upc (.inr m165) (fun m hm => by cases hm))
      have B185 := ((B135.ex F136).ex F156).fr F176 (by simp; omega)
      have B186 := ((B127'.ex F136).ex F156).fr F176 (by simp; omega)
      have B176' : Blk w176 b156 _ (cVal x136.1 A150 c151 A153 c154) := B176
      refine o_v (v := .int .i64 x136.2) (r_asg rfl) rfl rfl rfl ?_
      refine eo_nil_sq ?_
      refine ec_seq ?_
      refine ec_region ?_
      refine o_v (v := .agg (cVal d1 A7 c8 A10 c11).toArray) (r_lda agg_api_Value rfl (vs := (cVal d1 A7 c8 A10 c11)) rfl ((S21.fr G180 (fun _ h => h)).now.part (n := 8) rfl)) rfl rfl rfl ?_
      refine o_v (v := .agg (cVal d2 A13 c14 A16 c17).toArray) (r_lda agg_api_Value rfl (vs := (cVal d2 A13 c14 A16 c17)) rfl ((S25.fr G181 (fun _ h => h)).now.part (n := 8) rfl)) rfl rfl rfl ?_
      obtain ⟨ha188, h⟩ := h
      obtain ⟨ha189, h⟩ := h
      obtain ⟨x187, hx187, h⟩ := h
      refine o_call cf_value_Join rfl (value_Join_c d1 (kVal_mk (d := d1) (H9.up G178 (fun _ h => h) (upc (.inr m159) (upc (.inr m113) (upc (.inr m75) (fun _ h => .inl h))))) (H12.up G178 (fun _ h => h) (upc (.inr m159) (upc (.inr m113) (upc (.inr m75) (fun _ h => .inl h)))))) d2 (kVal_mk (d := d2) (H15.up G178 (fun _ h => h) (upc (.inr m159) (upc (.inr m113) (upc (.inr m75) (fun _ h => .inl h))))) (H18.up G178 (fun _ h => h) (upc (.inr m159) (upc (.inr m113) (upc (.inr m75) (fun _ h => .inl h)))))) ((((hL.fr E177).cons B185.lt).cons B186.lt).cons B176'.lt) (eq_ev hx187 (valJoin_ev d1 d2 ha188 ha189))) rfl rfl ?_
      rintro _ w187 ⟨F187, cs190, rfl, H191⟩
      have E192 := E177.trans F187
      obtain ⟨A203, c204, A206, c207, rfl, H205, H208⟩ := kVal_open H191
      refine o_v (v := .tuple #[.agg (cVal x187.1 A203 c204 A206 c207).toArray, .int .i64 x187.2]) (r_mov rfl) rfl rfl rfl ?_
      refine o_v (v := .agg (cVal x187.1 A203 c204 A206 c207).toArray) (r_ext rfl rfl) rfl rfl rfl ?_
      refine o_v (v := .int .i64 x187.2) (r_ext rfl rfl) rfl rfl rfl ?_
      refine o_alloc zero_api_Value rfl rfl rfl ?_
      intro b209 w209 e209 F209 B209
      have n209 : w.heap.size ≤ b209 := by rw [e209]; exact E192.size
      have q210 : b74 < b209 := by rw [e209]; exact (B185.ex F187).lt
      have q211 : b111 < b209 := by rw [e209]; exact (B186.ex F187).lt
      have q212 : b156 < b209 := by rw [e209]; exact (B176'.ex F187).lt
      have m213 : w.heap.size ≤ b209 := by rw [e209]; exact (G178.trans (Fr.ext F187)).size
      have m214 : w19.heap.size ≤ b209 := by rw [e209]; exact (G179.trans (Fr.ext F187)).size
      have m216 : w25.heap.size ≤ b209 := by rw [e209]; exact (G181.trans (Fr.ext F187)).size
      have m217 : w58.heap.size ≤ b209 := by rw [e209]; exact (G182.trans (Fr.ext F187)).size
      have m218 : w93.heap.size ≤ b209 := by rw [e209]; exact (G183.trans (Fr.ext F187)).size
      have m219 : w136.heap.size ≤ b209 := by rw [e209]; exact (G184.trans (Fr.ext F187)).size
      have m220 : w187.heap.size ≤ b209 := Nat.le_of_eq e209.symm
      have E221 := E192.trans F209
      have G229 : Fr (b156 :: (b111 :: (b74 :: L))) w187 w209 := Fr.ext F209
      refine o_store rfl B209 (vs := (cVal x187.1 A203 c204 A206 c207)) rfl sz_api_Value rfl rfl rfl ?_
      intro w233 F233 B233
      have E234 := Ext.st E221 F233 (by simp; omega)
      have G235 : Fr L w w233 := ((G178.trans (Fr.ext F187)).trans (Fr.ext F209)).stp F233 (upc (.inr m213) (fun m hm => by cases hm))
      have G236 : Fr L w19 w233 := ((G179.trans (Fr.ext F187)).trans (Fr.ext F209)).stp F233 (upc (.inr m214) (fun m hm => by cases hm))
      have G238 : Fr L w25 w233 := ((G181.trans (Fr.ext F187)).trans (Fr.ext F209)).stp F233 (upc (.inr m216) (fun m hm => by cases hm))
      have G239 : Fr L w58 w233 := ((G182.trans (Fr.ext F187)).trans (Fr.ext F209)).stp F233 (upc (.inr m217) (fun m hm => by cases hm))
      have G240 : Fr (b74 :: L) w93 w233 := ((G183.trans (Fr.ext F187)).trans (Fr.ext F209)).stp F233 (upc (.inr m218) (fun m hm => by cases hm))
      have G241 : Fr (b111 :: (b74 :: L)) w136 w233 := ((G184.trans (Fr.ext F187)).trans (Fr.ext F209)).stp F233 (upc (.inr m219) (fun m hm => by cases hm))
      have G242 : Fr (b156 :: (b111 :: (b74 :: L))) w187 w233 := G229.stp F233 (upc (.inr m220) (fun m hm => by cases hm))
      have B243 := ((B185.ex F187).ex F209).fr F233 (by simp; omega)
      have B244 := ((B186.ex F187).ex F209).fr F233 (by simp; omega)
      have B245 := ((B176'.ex F187).ex F209).fr F233 (by simp; omega)
      have B233' : Blk w233 b209 _ (cVal x187.1 A203 c204 A206 c207) := B233
      refine o_v (v := .int .i64 x187.2) (r_asg rfl) rfl rfl rfl ?_
      refine eo_nil_sq ?_
      refine ec_seq ?_
      refine ec_region ?_
      refine o_v (v := .agg (cVal x93.1 A105 c106 A108 c109).toArray) (r_lda agg_api_Value rfl (vs := (cVal x93.1 A105 c106 A108 c109)) rfl (B244.part (n := 8) rfl)) rfl rfl rfl ?_
      refine o_v (v := .agg (cVal d2 A13 c14 A16 c17).toArray) (r_lda agg_api_Value rfl (vs := (cVal d2 A13 c14 A16 c17)) rfl ((S25.fr G238 (fun _ h => h)).now.part (n := 8) rfl)) rfl rfl rfl ?_
      obtain ⟨ha247, h⟩ := h
      obtain ⟨ha248, h⟩ := h
      obtain ⟨x246, hx246, h⟩ := h
      refine o_call cf_value_Join rfl (value_Join_c x93.1 (kVal_mk (d := x93.1) (H107.up G240 (fun _ h => h) (upc (.inr m218) (upc (.inr m164) (upc (.inr m118) (upc (.inl (List.Mem.head _)) (fun m hm => Or.inl (List.Mem.tail _ hm))))))) (H110.up G240 (fun _ h => h) (upc (.inr m218) (upc (.inr m164) (upc (.inr m118) (upc (.inl (List.Mem.head _)) (fun m hm => Or.inl (List.Mem.tail _ hm)))))))) d2 (kVal_mk (d := d2) (H15.up G235 (fun _ h => h) (upc (.inr m213) (upc (.inr m159) (upc (.inr m113) (upc (.inr m75) (fun _ h => .inl h)))))) (H18.up G235 (fun _ h => h) (upc (.inr m213) (upc (.inr m159) (upc (.inr m113) (upc (.inr m75) (fun _ h => .inl h))))))) (((((hL.fr E234).cons B243.lt).cons B244.lt).cons B245.lt).cons B233'.lt) (eq_ev hx246 (valJoin_ev x93.1 d2 ha247 ha248))) rfl rfl ?_
      rintro _ w246 ⟨F246, cs249, rfl, H250⟩
      have E251 := E234.trans F246
      obtain ⟨A264, c265, A267, c268, rfl, H266, H269⟩ := kVal_open H250
      refine o_v (v := .tuple #[.agg (cVal x246.1 A264 c265 A267 c268).toArray, .int .i64 x246.2]) (r_mov rfl) rfl rfl rfl ?_
      refine o_v (v := .agg (cVal x246.1 A264 c265 A267 c268).toArray) (r_ext rfl rfl) rfl rfl rfl ?_
      refine o_v (v := .int .i64 x246.2) (r_ext rfl rfl) rfl rfl rfl ?_
      refine o_alloc zero_api_Value rfl rfl rfl ?_
      intro b270 w270 e270 F270 B270
      have n270 : w.heap.size ≤ b270 := by rw [e270]; exact E251.size
      have q271 : b74 < b270 := by rw [e270]; exact (B243.ex F246).lt
      have q272 : b111 < b270 := by rw [e270]; exact (B244.ex F246).lt
      have q273 : b156 < b270 := by rw [e270]; exact (B245.ex F246).lt
      have q274 : b209 < b270 := by rw [e270]; exact (B233'.ex F246).lt
      have m275 : w.heap.size ≤ b270 := by rw [e270]; exact (G235.trans (Fr.ext F246)).size
      have m276 : w19.heap.size ≤ b270 := by rw [e270]; exact (G236.trans (Fr.ext F246)).size
      have m279 : w58.heap.size ≤ b270 := by rw [e270]; exact (G239.trans (Fr.ext F246)).size
      have m280 : w93.heap.size ≤ b270 := by rw [e270]; exact (G240.trans (Fr.ext F246)).size
      have m281 : w136.heap.size ≤ b270 := by rw [e270]; exact (G241.trans (Fr.ext F246)).size
      have m282 : w187.heap.size ≤ b270 := by rw [e270]; exact (G242.trans (Fr.ext F246)).size
      have m283 : w246.heap.size ≤ b270 := Nat.le_of_eq e270.symm
      have E284 := E251.trans F270
      have G293 : Fr (b209 :: (b156 :: (b111 :: (b74 :: L)))) w246 w270 := Fr.ext F270
      refine o_store rfl B270 (vs := (cVal x246.1 A264 c265 A267 c268)) rfl sz_api_Value rfl rfl rfl ?_
      intro w298 F298 B298
      have E299 := Ext.st E284 F298 (by simp; omega)
      have G300 : Fr L w w298 := ((G235.trans (Fr.ext F246)).trans (Fr.ext F270)).stp F298 (upc (.inr m275) (fun m hm => by cases hm))
      have G301 : Fr L w19 w298 := ((G236.trans (Fr.ext F246)).trans (Fr.ext F270)).stp F298 (upc (.inr m276) (fun m hm => by cases hm))
      have G304 : Fr L w58 w298 := ((G239.trans (Fr.ext F246)).trans (Fr.ext F270)).stp F298 (upc (.inr m279) (fun m hm => by cases hm))
      have G305 : Fr (b74 :: L) w93 w298 := ((G240.trans (Fr.ext F246)).trans (Fr.ext F270)).stp F298 (upc (.inr m280) (fun m hm => by cases hm))
      have G306 : Fr (b111 :: (b74 :: L)) w136 w298 := ((G241.trans (Fr.ext F246)).trans (Fr.ext F270)).stp F298 (upc (.inr m281) (fun m hm => by cases hm))
      have G307 : Fr (b156 :: (b111 :: (b74 :: L))) w187 w298 := ((G242.trans (Fr.ext F246)).trans (Fr.ext F270)).stp F298 (upc (.inr m282) (fun m hm => by cases hm))
      have G308 : Fr (b209 :: (b156 :: (b111 :: (b74 :: L)))) w246 w298 := G293.stp F298 (upc (.inr m283) (fun m hm => by cases hm))
      have B309 := ((B243.ex F246).ex F270).fr F298 (by simp; omega)
      have B310 := ((B244.ex F246).ex F270).fr F298 (by simp; omega)
      have B311 := ((B245.ex F246).ex F270).fr F298 (by simp; omega)
      have B312 := ((B233'.ex F246).ex F270).fr F298 (by simp; omega)
      have B298' : Blk w298 b270 _ (cVal x246.1 A264 c265 A267 c268) := B298
      refine o_v (v := .int .i64 x246.2) (r_asg rfl) rfl rfl rfl ?_
      refine eo_nil_sq ?_
      refine ec_seq ?_
      refine ec_region ?_
      refine o_v (v := .agg (cVal d0 A1 c2 A4 c5).toArray) (r_lda agg_api_Value rfl (vs := (cVal d0 A1 c2 A4 c5)) rfl ((S19.fr G301 (fun _ h => h)).now.part (n := 8) rfl)) rfl rfl rfl ?_
      refine o_v (v := .agg (cVal x187.1 A203 c204 A206 c207).toArray) (r_lda agg_api_Value rfl (vs := (cVal x187.1 A203 c204 A206 c207)) rfl (B312.part (n := 8) rfl)) rfl rfl rfl ?_
      obtain ⟨ha314, h⟩ := h
      obtain ⟨ha315, h⟩ := h
      obtain ⟨x313, hx313, h⟩ := h
      refine o_call cf_value_Join rfl (value_Join_c d0 (kVal_mk (d := d0) (H3.up G300 (fun _ h => h) (upc (.inr m275) (upc (.inr m213) (upc (.inr m159) (upc (.inr m113) (upc (.inr m75) (fun _ h => .inl h))))))) (H6.up G300 (fun _ h => h) (upc (.inr m275) (upc (.inr m213) (upc (.inr m159) (upc (.inr m113) (upc (.inr m75) (fun _ h => .inl h)))))))) x187.1 (kVal_mk (d := x187.1) (H205.up G307 (fun _ h => h) (upc (.inr m282) (upc (.inr m220) (upc (.inl (List.Mem.head _)) (upc (.inl (List.Mem.tail _ (List.Mem.head _))) (upc (.inl (List.Mem.tail _ (List.Mem.tail _ (List.Mem.head _)))) (fun m hm => Or.inl (List.Mem.tail _ (List.Mem.tail _ (List.Mem.tail _ hm)))))))))) (H208.up G307 (fun _ h => h) (upc (.inr m282) (upc (.inr m220) (upc (.inl (List.Mem.head _)) (upc (.inl (List.Mem.tail _ (List.Mem.head _))) (upc (.inl (List.Mem.tail _ (List.Mem.tail _ (List.Mem.head _)))) (fun m hm => Or.inl (List.Mem.tail _ (List.Mem.tail _ (List.Mem.tail _ hm))))))))))) ((((((hL.fr E299).cons B309.lt).cons B310.lt).cons B311.lt).cons B312.lt).cons B298'.lt) (eq_ev hx313 (valJoin_ev d0 x187.1 ha314 ha315))) rfl rfl ?_
      rintro _ w313 ⟨F313, cs316, rfl, H317⟩
      have E318 := E299.trans F313
      obtain ⟨A333, c334, A336, c337, rfl, H335, H338⟩ := kVal_open H317
      refine o_v (v := .tuple #[.agg (cVal x313.1 A333 c334 A336 c337).toArray, .int .i64 x313.2]) (r_mov rfl) rfl rfl rfl ?_
      refine o_v (v := .agg (cVal x313.1 A333 c334 A336 c337).toArray) (r_ext rfl rfl) rfl rfl rfl ?_
      refine o_v (v := .int .i64 x313.2) (r_ext rfl rfl) rfl rfl rfl ?_
      refine o_alloc zero_api_Value rfl rfl rfl ?_
      intro b339 w339 e339 F339 B339
      have n339 : w.heap.size ≤ b339 := by rw [e339]; exact E318.size
      have q340 : b74 < b339 := by rw [e339]; exact (B309.ex F313).lt
      have q341 : b111 < b339 := by rw [e339]; exact (B310.ex F313).lt
      have q342 : b156 < b339 := by rw [e339]; exact (B311.ex F313).lt
      have q343 : b209 < b339 := by rw [e339]; exact (B312.ex F313).lt
      have q344 : b270 < b339 := by rw [e339]; exact (B298'.ex F313).lt
      have m345 : w.heap.size ≤ b339 := by rw [e339]; exact (G300.trans (Fr.ext F313)).size
      have m346 : w19.heap.size ≤ b339 := by rw [e339]; exact (G301.trans (Fr.ext F313)).size
      have m349 : w58.heap.size ≤ b339 := by rw [e339]; exact (G304.trans (Fr.ext F313)).size
      have m350 : w93.heap.size ≤ b339 := by rw [e339]; exact (G305.trans (Fr.ext F313)).size
      have m351 : w136.heap.size ≤ b339 := by rw [e339]; exact (G306.trans (Fr.ext F313)).size
      have m353 : w246.heap.size ≤ b339 := by rw [e339]; exact (G308.trans (Fr.ext F313)).size
      have m354 : w313.heap.size ≤ b339 := Nat.le_of_eq e339.symm
      have E355 := E318.trans F339
      have G365 : Fr (b270 :: (b209 :: (b156 :: (b111 :: (b74 :: L))))) w313 w339 := Fr.ext F339
      refine o_store rfl B339 (vs := (cVal x313.1 A333 c334 A336 c337)) rfl sz_api_Value rfl rfl rfl ?_
      intro w371 F371 B371
      have E372 := Ext.st E355 F371 (by simp; omega)
      have G373 : Fr L w w371 := ((G300.trans (Fr.ext F313)).trans (Fr.ext F339)).stp F371 (upc (.inr m345) (fun m hm => by cases hm))
      have G374 : Fr L w19 w371 := ((G301.trans (Fr.ext F313)).trans (Fr.ext F339)).stp F371 (upc (.inr m346) (fun m hm => by cases hm))
      have G377 : Fr L w58 w371 := ((G304.trans (Fr.ext F313)).trans (Fr.ext F339)).stp F371 (upc (.inr m349) (fun m hm => by cases hm))
      have G378 : Fr (b74 :: L) w93 w371 := ((G305.trans (Fr.ext F313)).trans (Fr.ext F339)).stp F371 (upc (.inr m350) (fun m hm => by cases hm))
      have G379 : Fr (b111 :: (b74 :: L)) w136 w371 := ((G306.trans (Fr.ext F313)).trans (Fr.ext F339)).stp F371 (upc (.inr m351) (fun m hm => by cases hm))
      have G381 : Fr (b209 :: (b156 :: (b111 :: (b74 :: L)))) w246 w371 := ((G308.trans (Fr.ext F313)).trans (Fr.ext F339)).stp F371 (upc (.inr m353) (fun m hm => by cases hm))
      have G382 : Fr (b270 :: (b209 :: (b156 :: (b111 :: (b74 :: L))))) w313 w371 := G365.stp F371 (upc (.inr m354) (fun m hm => by cases hm))
      have B383 := ((B309.ex F313).ex F339).fr F371 (by simp; omega)
      have B384 := ((B310.ex F313).ex F339).fr F371 (by simp; omega)
      have B385 := ((B311.ex F313).ex F339).fr F371 (by simp; omega)
      have B386 := ((B312.ex F313).ex F339).fr F371 (by simp; omega)
      have B387 := ((B298'.ex F313).ex F339).fr F371 (by simp; omega)
      have B371' : Blk w371 b339 _ (cVal x313.1 A333 c334 A336 c337) := B371
      refine o_v (v := .int .i64 x313.2) (r_asg rfl) rfl rfl rfl ?_
      refine eo_nil_sq ?_
      refine ec_seq ?_
      refine ec_seq ?_
      refine ec_region ?_
      refine o_v (v := .int .i64 x58.2) (r_mov rfl) rfl rfl rfl ?_
      refine o_v (v := .bool (x58.2 == (0 : Int))) (r_int rfl rfl rfl) rfl rfl rfl ?_
      refine o_v (v := .agg (cVal d0 A1 c2 A4 c5).toArray) (r_lda agg_api_Value rfl (vs := (cVal d0 A1 c2 A4 c5)) rfl ((S19.fr G374 (fun _ h => h)).now.part (n := 8) rfl)) rfl rfl rfl ?_
      obtain ⟨ha391, h⟩ := h
      refine o_call cf_value_Check rfl (value_Check_c d0 (kVal_mk (d := d0) (H3.up G373 (fun _ h => h) (upc (.inr m345) (upc (.inr m275) (upc (.inr m213) (upc (.inr m159) (upc (.inr m113) (upc (.inr m75) (fun _ h => .inl h)))))))) (H6.up G373 (fun _ h => h) (upc (.inr m345) (upc (.inr m275) (upc (.inr m213) (upc (.inr m159) (upc (.inr m113) (upc (.inr m75) (fun _ h => .inl h))))))))) (((((((hL.fr E372).cons B383.lt).cons B384.lt).cons B385.lt).cons B386.lt).cons B387.lt).cons B371'.lt) (valCheck_ev d0 ha391)) rfl rfl ?_
      rintro _ w390 ⟨F390, rfl⟩
      have E392 := E372.trans F390
      refine o_v (v := .bool ((checkV d0) == (0 : Int))) (r_int rfl rfl rfl) rfl rfl rfl ?_
      refine o_v (v := .bool (!((x58.2 == (0 : Int)) == ((checkV d0) == (0 : Int))))) (r_boolNe un_bool rfl rfl) rfl rfl rfl ?_
      refine o_v (v := .bool (!((x58.2 == (0 : Int)) == ((checkV d0) == (0 : Int))))) (r_mov rfl) rfl rfl rfl ?_
      refine o_vg (v := .int .i64 x93.2) (want_cf (t := 79) rfl rfl) (fun hk => (r_mov rfl)) rfl rfl ?_
      refine o_vg (v := .int .i64 x136.2) (want_cf (t := 79) rfl rfl) (fun hk => (r_mov rfl)) rfl rfl ?_
      refine o_vg (v := .bool (x93.2 != x136.2)) (want_cf (t := 79) rfl rfl) (fun hk => (r_int (gdT hk) (gdT hk) rfl)) rfl rfl ?_
      refine o_v (v := .bool ((!((x58.2 == (0 : Int)) == ((checkV d0) == (0 : Int)))) || (x93.2 != x136.2))) (r_pickOr rfl rfl (fun hf => (gdT (notT hf)))) rfl rfl rfl ?_
      refine o_v (v := .bool ((!((x58.2 == (0 : Int)) == ((checkV d0) == (0 : Int)))) || (x93.2 != x136.2))) (r_mov rfl) rfl rfl rfl ?_
      refine o_vg (v := .int .i64 x93.2) (want_cf (t := 84) rfl rfl) (fun hk => (r_mov rfl)) rfl rfl ?_
      refine o_vg (v := .bool (x93.2 == (0 : Int))) (want_cf (t := 84) rfl rfl) (fun hk => (r_int (gdT hk) rfl rfl)) rfl rfl ?_
      refine o_vg (v := .bool (x93.2 == (0 : Int))) (want_cf (t := 84) rfl rfl) (fun hk => (r_mov (gdT hk))) rfl rfl ?_
      refine o_vg (v := .agg (cVal x93.1 A105 c106 A108 c109).toArray) (want_gt (t := 87) rfl rfl) (fun hk => (r_lda agg_api_Value rfl (vs := (cVal x93.1 A105 c106 A108 c109)) rfl ((B384.ex F390).part (n := 8) rfl))) rfl rfl ?_
      refine o_vg (v := .agg (cVal x136.1 A150 c151 A153 c154).toArray) (want_gt (t := 87) rfl rfl) (fun hk => (r_lda agg_api_Value rfl (vs := (cVal x136.1 A150 c151 A153 c154)) rfl ((B385.ex F390).part (n := 8) rfl))) rfl rfl ?_
      obtain ⟨ha410, h⟩ := h
      refine o_callg (V := .bool (sameV x93.1 x136.1)) cf_value_Same (want_gt (t := 87) rfl rfl) (fun hk => (mapv2 (gdT hk) (gdT hk))) (fun hk => (value_Same_c x93.1 (kVal_mk (d := x93.1) (H107.up (G378.trans (Fr.ext F390)) (fun _ h => h) (upc (.inr m350) (upc (.inr m280) (upc (.inr m218) (upc (.inr m164) (upc (.inr m118) (upc (.inl (List.Mem.head _)) (fun m hm => Or.inl (List.Mem.tail _ hm))))))))) (H110.up (G378.trans (Fr.ext F390)) (fun _ h => h) (upc (.inr m350) (upc (.inr m280) (upc (.inr m218) (upc (.inr m164) (upc (.inr m118) (upc (.inl (List.Mem.head _)) (fun m hm => Or.inl (List.Mem.tail _ hm)))))))))) x136.1 (kVal_mk (d := x136.1) (H152.up (G379.trans (Fr.ext F390)) (fun _ h => h) (upc (.inr m351) (upc (.inr m281) (upc (.inr m219) (upc (.inr m165) (upc (.inl (List.Mem.head _)) (upc (.inl (List.Mem.tail _ (List.Mem.head _))) (fun m hm => Or.inl (List.Mem.tail _ (List.Mem.tail _ hm)))))))))) (H155.up (G379.trans (Fr.ext F390)) (fun _ h => h) (upc (.inr m351) (upc (.inr m281) (upc (.inr m219) (upc (.inr m165) (upc (.inl (List.Mem.head _)) (upc (.inl (List.Mem.tail _ (List.Mem.head _))) (fun m hm => Or.inl (List.Mem.tail _ (List.Mem.tail _ hm))))))))))) (((((((hL.fr E392).cons (B383.ex F390).lt).cons (B384.ex F390).lt).cons (B385.ex F390).lt).cons (B386.ex F390).lt).cons (B387.ex F390).lt).cons (B371'.ex F390).lt) (valSame_ev x93.1 x136.1 (ha410 hk)))) rfl ?_
      intro w409 F409
      have E411 := E392.trans F409
      refine o_vg (v := .bool (!(sameV x93.1 x136.1))) (want_gt (t := 87) rfl rfl) (fun hk => (r_not (gdT hk))) rfl rfl ?_
      refine o_vg (v := .bool ((x93.2 == (0 : Int)) && (!(sameV x93.1 x136.1)))) (want_cf (t := 84) rfl rfl) (fun hk => (r_pickAnd (gdT hk) (fun ht => (gdT (andM hk ht))) rfl)) rfl rfl ?_
      refine o_v (v := .bool (((!((x58.2 == (0 : Int)) == ((checkV d0) == (0 : Int)))) || (x93.2 != x136.2)) || ((x93.2 == (0 : Int)) && (!(sameV x93.1 x136.1))))) (r_pickOr rfl rfl (fun hf => (gdT (notT hf)))) rfl rfl rfl ?_
      refine o_v (v := .bool (((!((x58.2 == (0 : Int)) == ((checkV d0) == (0 : Int)))) || (x93.2 != x136.2)) || ((x93.2 == (0 : Int)) && (!(sameV x93.1 x136.1))))) (r_mov rfl) rfl rfl rfl ?_
      refine o_vg (v := .int .i64 x58.2) (want_cf (t := 94) rfl rfl) (fun hk => (r_mov rfl)) rfl rfl ?_
      refine o_vg (v := .bool (x58.2 == (0 : Int))) (want_cf (t := 94) rfl rfl) (fun hk => (r_int (gdT hk) rfl rfl)) rfl rfl ?_
      refine o_vg (v := .bool (x58.2 == (0 : Int))) (want_cf (t := 94) rfl rfl) (fun hk => (r_mov (gdT hk))) rfl rfl ?_
      refine o_vg (v := .agg (cVal x58.1 A68 c69 A71 c72).toArray) (want_gt (t := 97) rfl rfl) (fun hk => (r_lda agg_api_Value rfl (vs := (cVal x58.1 A68 c69 A71 c72)) rfl (((B383.ex F390).ex F409).part (n := 8) rfl))) rfl rfl ?_
      refine o_vg (v := .agg (cVal d0 A1 c2 A4 c5).toArray) (want_gt (t := 97) rfl rfl) (fun hk => (r_lda agg_api_Value rfl (vs := (cVal d0 A1 c2 A4 c5)) rfl ((S19.fr ((G374.trans (Fr.ext F390)).trans (Fr.ext F409)) (fun _ h => h)).now.part (n := 8) rfl))) rfl rfl ?_
      obtain ⟨ha429, h⟩ := h
      refine o_callg (V := .bool (sameV x58.1 d0)) cf_value_Same (want_gt (t := 97) rfl rfl) (fun hk => (mapv2 (gdT hk) (gdT hk))) (fun hk => (value_Same_c x58.1 (kVal_mk (d := x58.1) (H70.up ((G377.trans (Fr.ext F390)).trans (Fr.ext F409)) (fun _ h => h) (upc (.inr m349) (upc (.inr m279) (upc (.inr m217) (upc (.inr m163) (upc (.inr m117) (upc (.inr m79) (fun _ h => .inl h)))))))) (H73.up ((G377.trans (Fr.ext F390)).trans (Fr.ext F409)) (fun _ h => h) (upc (.inr m349) (upc (.inr m279) (upc (.inr m217) (upc (.inr m163) (upc (.inr m117) (upc (.inr m79) (fun _ h => .inl h))))))))) d0 (kVal_mk (d := d0) (H3.up ((G373.trans (Fr.ext F390)).trans (Fr.ext F409)) (fun _ h => h) (upc (.inr m345) (upc (.inr m275) (upc (.inr m213) (upc (.inr m159) (upc (.inr m113) (upc (.inr m75) (fun _ h => .inl h)))))))) (H6.up ((G373.trans (Fr.ext F390)).trans (Fr.ext F409)) (fun _ h => h) (upc (.inr m345) (upc (.inr m275) (upc (.inr m213) (upc (.inr m159) (upc (.inr m113) (upc (.inr m75) (fun _ h => .inl h))))))))) (((((((hL.fr E411).cons ((B383.ex F390).ex F409).lt).cons ((B384.ex F390).ex F409).lt).cons ((B385.ex F390).ex F409).lt).cons ((B386.ex F390).ex F409).lt).cons ((B387.ex F390).ex F409).lt).cons ((B371'.ex F390).ex F409).lt) (valSame_ev x58.1 d0 (ha429 hk)))) rfl ?_
      intro w428 F428
      have E430 := E411.trans F428
      have G439 := ((G381.trans (Fr.ext F390)).trans (Fr.ext F409)).trans (Fr.ext F428)
      have G440 := ((G382.trans (Fr.ext F390)).trans (Fr.ext F409)).trans (Fr.ext F428)
      refine o_vg (v := .bool (!(sameV x58.1 d0))) (want_gt (t := 97) rfl rfl) (fun hk => (r_not (gdT hk))) rfl rfl ?_
      refine o_vg (v := .bool ((x58.2 == (0 : Int)) && (!(sameV x58.1 d0)))) (want_cf (t := 94) rfl rfl) (fun hk => (r_pickAnd (gdT hk) (fun ht => (gdT (andM hk ht))) rfl)) rfl rfl ?_
      refine o_v (v := .bool ((((!((x58.2 == (0 : Int)) == ((checkV d0) == (0 : Int)))) || (x93.2 != x136.2)) || ((x93.2 == (0 : Int)) && (!(sameV x93.1 x136.1)))) || ((x58.2 == (0 : Int)) && (!(sameV x58.1 d0))))) (r_pickOr rfl rfl (fun hf => (gdT (notT hf)))) rfl rfl rfl ?_
      refine eo_nil_sq ?_
      refine ec_cond rfl (fun hc447 => ?_) (fun hc447 => ?_)
      · replace h := h.1 hc447
        refine ec_seq ?_
        refine ec_region ?_
        refine o_v (v := .bool false) (r_asg rfl) rfl rfl rfl ?_
        refine eo_nil_sq ?_
        refine ec_ret ?_
        refine sq_ret ?_
        subst h
        exact (end1 rfl ⟨_, rfl, E430, rfl⟩)
      · replace h := h.2 hc447
        refine ec_skip ?_
        refine sq_n ?_
        refine ec_seq ?_
        refine ec_seq ?_
        refine ec_region ?_
        refine o_v (v := .int .i64 x93.2) (r_mov rfl) rfl rfl rfl ?_
        refine o_v (v := .bool (x93.2 != (0 : Int))) (r_int rfl rfl rfl) rfl rfl rfl ?_
        refine o_v (v := .bool (x93.2 != (0 : Int))) (r_mov rfl) rfl rfl rfl ?_
        refine o_vg (v := .int .i64 x187.2) (want_cf (t := 106) rfl rfl) (fun hk => (r_mov rfl)) rfl rfl ?_
        refine o_vg (v := .bool (x187.2 != (0 : Int))) (want_cf (t := 106) rfl rfl) (fun hk => (r_int (gdT hk) rfl rfl)) rfl rfl ?_
        refine o_v (v := .bool ((x93.2 != (0 : Int)) || (x187.2 != (0 : Int)))) (r_pickOr rfl rfl (fun hf => (gdT (notT hf)))) rfl rfl rfl ?_
        refine eo_nil_sq ?_
        refine ec_cond rfl (fun hc448 => ?_) (fun hc448 => ?_)
        · replace h := h.1 hc448
          refine ec_seq ?_
          refine ec_region ?_
          refine o_v (v := .bool (worksV)) (r_mov rfl) rfl rfl rfl ?_
          refine o_v (v := .bool (worksV)) (r_asg rfl) rfl rfl rfl ?_
          refine eo_nil_sq ?_
          refine ec_ret ?_
          refine sq_ret ?_
          subst h
          exact (end1 rfl ⟨_, rfl, E430, rfl⟩)
        · replace h := h.2 hc448
          refine ec_skip ?_
          refine sq_n ?_
          refine ec_seq ?_
          refine ec_region ?_
          refine o_v (v := .bool (worksV)) (r_mov rfl) rfl rfl rfl ?_
          refine o_v (v := .bool (worksV)) (r_mov rfl) rfl rfl rfl ?_
          refine o_v (v := .int .i64 x246.2) (r_mov rfl) (want_t (t := 112) rfl rfl (of_not hc36)) rfl rfl ?_
          refine o_v (v := .bool (x246.2 == (0 : Int))) (r_int rfl rfl rfl) (want_t (t := 112) rfl rfl (of_not hc36)) rfl rfl ?_
          refine o_v (v := .bool (x246.2 == (0 : Int))) (r_pickT rfl (of_not hc36) rfl) rfl rfl rfl ?_
          refine o_v (v := .bool (x246.2 == (0 : Int))) (r_mov rfl) rfl rfl rfl ?_
          refine o_vg (v := .int .i64 x313.2) (want_ct (t := 116) rfl rfl) (fun hk => (r_mov rfl)) rfl rfl ?_
          refine o_vg (v := .bool (x313.2 == (0 : Int))) (want_ct (t := 116) rfl rfl) (fun hk => (r_int (gdT hk) rfl rfl)) rfl rfl ?_
          refine o_v (v := .bool ((x246.2 == (0 : Int)) && (x313.2 == (0 : Int)))) (r_pickAnd rfl (fun ht => (gdT ht)) rfl) rfl rfl rfl ?_
          refine o_v (v := .bool ((x246.2 == (0 : Int)) && (x313.2 == (0 : Int)))) (r_mov rfl) rfl rfl rfl ?_
          refine o_vg (v := .agg (cVal x246.1 A264 c265 A267 c268).toArray) (want_ct (t := 120) rfl rfl) (fun hk => (r_lda agg_api_Value rfl (vs := (cVal x246.1 A264 c265 A267 c268)) rfl ((((B387.ex F390).ex F409).ex F428).part (n := 8) rfl))) rfl rfl ?_
          refine o_vg (v := .agg (cVal x313.1 A333 c334 A336 c337).toArray) (want_ct (t := 120) rfl rfl) (fun hk => (r_lda agg_api_Value rfl (vs := (cVal x313.1 A333 c334 A336 c337)) rfl ((((B371'.ex F390).ex F409).ex F428).part (n := 8) rfl))) rfl rfl ?_
          obtain ⟨ha451, h⟩ := h
          refine o_callg (V := .bool (sameV x246.1 x313.1)) cf_value_Same (want_ct (t := 120) rfl rfl) (fun hk => (mapv2 (gdT hk) (gdT hk))) (fun hk => (value_Same_c x246.1 (kVal_mk (d := x246.1) (H266.up G439 (fun _ h => h) (upc (.inr m353) (upc (.inr m283) (upc (.inl (List.Mem.head _)) (upc (.inl (List.Mem.tail _ (List.Mem.head _))) (upc (.inl (List.Mem.tail _ (List.Mem.tail _ (List.Mem.head _)))) (upc (.inl (List.Mem.tail _ (List.Mem.tail _ (List.Mem.tail _ (List.Mem.head _))))) (fun m hm => Or.inl (List.Mem.tail _ (List.Mem.tail _ (List.Mem.tail _ (List.Mem.tail _ hm)))))))))))) (H269.up G439 (fun _ h => h) (upc (.inr m353) (upc (.inr m283) (upc (.inl (List.Mem.head _)) (upc (.inl (List.Mem.tail _ (List.Mem.head _))) (upc (.inl (List.Mem.tail _ (List.Mem.tail _ (List.Mem.head _)))) (upc (.inl (List.Mem.tail _ (List.Mem.tail _ (List.Mem.tail _ (List.Mem.head _))))) (fun m hm => Or.inl (List.Mem.tail _ (List.Mem.tail _ (List.Mem.tail _ (List.Mem.tail _ hm))))))))))))) x313.1 (kVal_mk (d := x313.1) (H335.up G440 (fun _ h => h) (upc (.inr m354) (upc (.inl (List.Mem.head _)) (upc (.inl (List.Mem.tail _ (List.Mem.head _))) (upc (.inl (List.Mem.tail _ (List.Mem.tail _ (List.Mem.head _)))) (upc (.inl (List.Mem.tail _ (List.Mem.tail _ (List.Mem.tail _ (List.Mem.head _))))) (upc (.inl (List.Mem.tail _ (List.Mem.tail _ (List.Mem.tail _ (List.Mem.tail _ (List.Mem.head _)))))) (fun m hm => Or.inl (List.Mem.tail _ (List.Mem.tail _ (List.Mem.tail _ (List.Mem.tail _ (List.Mem.tail _ hm))))))))))))) (H338.up G440 (fun _ h => h) (upc (.inr m354) (upc (.inl (List.Mem.head _)) (upc (.inl (List.Mem.tail _ (List.Mem.head _))) (upc (.inl (List.Mem.tail _ (List.Mem.tail _ (List.Mem.head _)))) (upc (.inl (List.Mem.tail _ (List.Mem.tail _ (List.Mem.tail _ (List.Mem.head _))))) (upc (.inl (List.Mem.tail _ (List.Mem.tail _ (List.Mem.tail _ (List.Mem.tail _ (List.Mem.head _)))))) (fun m hm => Or.inl (List.Mem.tail _ (List.Mem.tail _ (List.Mem.tail _ (List.Mem.tail _ (List.Mem.tail _ hm)))))))))))))) (((((((hL.fr E430).cons (((B383.ex F390).ex F409).ex F428).lt).cons (((B384.ex F390).ex F409).ex F428).lt).cons (((B385.ex F390).ex F409).ex F428).lt).cons (((B386.ex F390).ex F409).ex F428).lt).cons (((B387.ex F390).ex F409).ex F428).lt).cons (((B371'.ex F390).ex F409).ex F428).lt) (valSame_ev x246.1 x313.1 (ha451 hk)))) rfl ?_
          intro w450 F450
          have E452 := E430.trans F450
          refine o_v (v := .bool (((x246.2 == (0 : Int)) && (x313.2 == (0 : Int))) && (sameV x246.1 x313.1))) (r_pickAnd rfl (fun ht => (gdT ht)) rfl) rfl rfl rfl ?_
          refine o_v (v := .bool (((x246.2 == (0 : Int)) && (x313.2 == (0 : Int))) && (sameV x246.1 x313.1))) (r_asg rfl) rfl rfl rfl ?_
          refine eo_nil_sq ?_
          refine ec_ret ?_
          subst h
          exact (end1 rfl ⟨_, rfl, E452, rfl⟩)
end Go.Proofs.Ytdojgmmpcdbeoaa
