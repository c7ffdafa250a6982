/- The law ValueTells: what it comes to. -/
import Derived.Test.YtdojgmmpcdbeoaaGb
namespace Go.Proofs.Ytdojgmmpcdbeoaa
open Go Go.RowKit
set_option linter.unusedVariables false
set_option linter.unusedSimpArgs false
def law06_ValueTells_raw (d0 : Val) (d1 : Val) (d2 : Int) (y : Bool) : Prop :=
  ((!(worksV)) = true → (y = false)) ∧ ((!(worksV)) = false → (((!((fewV d0) && (fewV d1))) = true → (y = (worksV))) ∧ ((!((fewV d0) && (fewV d1))) = false → ((sm d0) ∧ ((sm d0) ∧ ((sm d1) ∧ (∃ x43, x43 = (joinV d0 d1) ∧ ((sm d0) ∧ ((sm d1) ∧ (∃ x74, x74 = (joinV d0 d1) ∧ (∃ x113, x113 = (leastV d2) ∧ (∃ x158, x158 = (leastV d2) ∧ ((sm x43.1) ∧ (((sameV x43.1 x74.1) = true → sm x113.1) ∧ ((sm d0) ∧ ((sm d1) ∧ ((sm d0) ∧ ((sm d0) ∧ ((sm d0) ∧ ((((((((checkV d0) == (0 : Int)) == (okV d0)) && ((sameV x43.1 x74.1) && (sameV x113.1 x158.1))) && (x43.2 == x74.2)) && (x113.2 == x158.2)) = true → sm d0) ∧ ((((((((checkV d0) == (0 : Int)) == (okV d0)) && ((sameV x43.1 x74.1) && (sameV x113.1 x158.1))) && (x43.2 == x74.2)) && (x113.2 == x158.2)) = true → sm d1) ∧ (((((((((checkV d0) == (0 : Int)) == (okV d0)) && ((sameV x43.1 x74.1) && (sameV x113.1 x158.1))) && (x43.2 == x74.2)) && (x113.2 == x158.2)) && ((belowV d0 d1) == (belowV d0 d1))) = true → sm d0) ∧ ((((((((((checkV d0) == (0 : Int)) == (okV d0)) && ((sameV x43.1 x74.1) && (sameV x113.1 x158.1))) && (x43.2 == x74.2)) && (x113.2 == x158.2)) && ((belowV d0 d1) == (belowV d0 d1))) && ((sameV d0 d1) == (sameV d0 d1))) = true → sm d0) ∧ (y = (((((((((checkV d0) == (0 : Int)) == (okV d0)) && ((sameV x43.1 x74.1) && (sameV x113.1 x158.1))) && (x43.2 == x74.2)) && (x113.2 == x158.2)) && ((belowV d0 d1) == (belowV d0 d1))) && ((sameV d0 d1) == (sameV d0 d1))) && ((sumV d0) == (sumV d0)))))))))))))))))))))))))))
set_option maxRecDepth 20000 in
set_option maxHeartbeats 4000000 in
theorem law06_ValueTells_c {L : List Nat} {w : World} {csP0 : List Value} (d0 : Val) (HP0 : Stb L w (fun w => kVal.r w csP0 d0)) {csP1 : List Value} (d1 : Val) (HP1 : Stb L w (fun w => kVal.r w csP1 d1)) (d2 : Int) (hL : Lt L w) {y : Bool} (h : law06_ValueTells_raw d0 d1 d2 y) :
    Calls Try.prog 3 [.agg csP0.toArray, .agg csP1.toArray, .int .i64 d2].toArray w (Ret fun v w' => Ext w w' ∧ v = .bool y) := by
  obtain ⟨A1, c2, A4, c5, rfl, H3, H6⟩ := kVal_open HP0
  obtain ⟨A7, c8, A10, c11, rfl, H9, H12⟩ := kVal_open HP1
  unfold law06_ValueTells_raw at h
  refine calls_ec Try.func3 rfl rfl rfl ?_
  refine ec_seq ?_
  refine ec_region ?_
  refine o_box (cs := (cVal d0 A1 c2 A4 c5)) rfl rfl rfl ?_
  intro b13 w13 e13 F13 B13
  have S13 := B13.stb (nin hL e13)
  have G14 : Fr L w w13 := Fr.ext F13
  refine o_box (cs := (cVal d1 A7 c8 A10 c11)) rfl rfl rfl ?_
  intro b15 w15 e15 F15 B15
  have S15 := B15.stb (nin (hL.fr F13) e15)
  have E16 := F13.trans F15
  have G18 : Fr L w13 w15 := Fr.ext F15
  refine o_v (v := .bool false) (r_asg rfl) rfl rfl rfl ?_
  refine eo_nil_sq ?_
  refine ec_seq ?_
  refine ec_region ?_
  refine o_call cf_law06_works rfl (law06_works_c (hL.fr E16) (works_ev)) rfl rfl ?_
  rintro _ w19 ⟨F19, rfl⟩
  have E20 := E16.trans F19
  have G23 : Fr L w15 w19 := Fr.ext F19
  refine o_v (v := .bool (worksV)) (r_asg rfl) rfl rfl rfl ?_
  refine eo_nil_sq ?_
  refine ec_seq ?_
  refine ec_seq ?_
  refine ec_region ?_
  refine o_v (v := .bool (worksV)) (r_mov rfl) rfl rfl rfl ?_
  refine o_v (v := .bool (!(worksV))) (r_not rfl) rfl rfl rfl ?_
  refine eo_nil_sq ?_
  refine ec_cond rfl (fun hc24 => ?_) (fun hc24 => ?_)
  · replace h := h.1 hc24
    refine ec_seq ?_
    refine ec_region ?_
    refine o_v (v := .bool false) (r_asg rfl) rfl rfl rfl ?_
    refine eo_nil_sq ?_
    refine ec_ret ?_
    refine sq_ret ?_
    subst h
    exact (end1 rfl ⟨_, rfl, E20, rfl⟩)
  · replace h := h.2 hc24
    refine ec_skip ?_
    refine sq_n ?_
    refine ec_seq ?_
    refine ec_region ?_
    refine o_v (v := .agg (cVal d0 A1 c2 A4 c5).toArray) (r_lda agg_api_Value rfl (vs := (cVal d0 A1 c2 A4 c5)) rfl ((S13.fr (G18.trans (Fr.ext F19)) (fun _ h => h)).now.part (n := 8) rfl)) rfl rfl rfl ?_
    refine o_call cf_law06_Few rfl (law06_Few_c d0 (kVal_mk (d := d0) (H3.fr ((G14.trans (Fr.ext F15)).trans (Fr.ext F19)) (fun _ h => h)) (H6.fr ((G14.trans (Fr.ext F15)).trans (Fr.ext F19)) (fun _ h => h))) (hL.fr E20) (few_ev d0)) rfl rfl ?_
    rintro _ w26 ⟨F26, rfl⟩
    have E27 := E20.trans F26
    refine o_v (v := .bool (fewV d0)) (r_mov rfl) rfl rfl rfl ?_
    refine o_vg (v := .agg (cVal d1 A7 c8 A10 c11).toArray) (want_ct (t := 27) rfl rfl) (fun hk => (r_lda agg_api_Value rfl (vs := (cVal d1 A7 c8 A10 c11)) rfl ((S15.fr (G23.trans (Fr.ext F26)) (fun _ h => h)).now.part (n := 8) rfl))) rfl rfl ?_
    refine o_callg (V := .bool (fewV d1)) cf_law06_Few (want_ct (t := 27) rfl rfl) (fun hk => (mapv1 (gdT hk))) (fun hk => (law06_Few_c d1 (kVal_mk (d := d1) (H9.fr (((G14.trans (Fr.ext F15)).trans (Fr.ext F19)).trans (Fr.ext F26)) (fun _ h => h)) (H12.fr (((G14.trans (Fr.ext F15)).trans (Fr.ext F19)).trans (Fr.ext F26)) (fun _ h => h))) (hL.fr E27) (few_ev d1))) rfl ?_
    intro w31 F31
    have E32 := E27.trans F31
    have G33 := (((G14.trans (Fr.ext F15)).trans (Fr.ext F19)).trans (Fr.ext F26)).trans (Fr.ext F31)
    refine o_v (v := .bool ((fewV d0) && (fewV d1))) (r_pickAnd rfl (fun ht => (gdT ht)) rfl) rfl rfl rfl ?_
    refine o_v (v := .bool ((fewV d0) && (fewV d1))) (r_asg rfl) rfl rfl rfl ?_
    refine eo_nil_sq ?_
    refine ec_seq ?_
    refine ec_seq ?_
    refine ec_region ?_
    refine o_v (v := .bool ((fewV d0) && (fewV d1))) (r_mov rfl) rfl rfl rfl ?_
    refine o_v (v := .bool (!((fewV d0) && (fewV d1)))) (r_not rfl) rfl rfl rfl ?_
    refine eo_nil_sq ?_
    refine ec_cond rfl (fun hc36 => ?_) (fun hc36 => ?_)
    · replace h := h.1 hc36
      refine ec_seq ?_
      refine ec_region ?_
      refine o_v (v := .bool (worksV)) (r_mov rfl) rfl rfl rfl ?_
      refine o_v (v := .bool (worksV)) (r_asg rfl) rfl rfl rfl ?_
      refine eo_nil_sq ?_
      refine ec_ret ?_
      refine sq_ret ?_
      subst h
      exact (end1 rfl ⟨_, rfl, E32, rfl⟩)
    · replace h := h.2 hc36
      refine ec_skip ?_
      refine sq_n ?_
      refine ec_seq ?_
      refine ec_region ?_
      refine o_v (v := .agg (cVal d0 A1 c2 A4 c5).toArray) (r_lda agg_api_Value rfl (vs := (cVal d0 A1 c2 A4 c5)) rfl ((S13.fr (((G18.trans (Fr.ext F19)).trans (Fr.ext F26)).trans (Fr.ext F31)) (fun _ h => h)).now.part (n := 8) rfl)) rfl rfl rfl ?_
      obtain ⟨ha38, h⟩ := h
      refine o_call cf_ref06_Check rfl (ref06_Check_c d0 (kVal_mk (d := d0) (H3.fr G33 (fun _ h => h)) (H6.fr G33 (fun _ h => h))) (hL.fr E32) (refCheck_ev d0 ha38)) rfl rfl ?_
      rintro _ w37 ⟨F37, rfl⟩
      have E39 := E32.trans F37
      have G41 := (((G18.trans (Fr.ext F19)).trans (Fr.ext F26)).trans (Fr.ext F31)).trans (Fr.ext F37)
      refine o_v (v := .bool (okV d0)) (r_asg rfl) rfl rfl rfl ?_
      refine eo_nil_sq ?_
      refine ec_seq ?_
      refine ec_region ?_
      refine o_v (v := .agg (cVal d0 A1 c2 A4 c5).toArray) (r_lda agg_api_Value rfl (vs := (cVal d0 A1 c2 A4 c5)) rfl ((S13.fr G41 (fun _ h => h)).now.part (n := 8) rfl)) rfl rfl rfl ?_
      refine o_v (v := .agg (cVal d1 A7 c8 A10 c11).toArray) (r_lda agg_api_Value rfl (vs := (cVal d1 A7 c8 A10 c11)) rfl ((S15.fr (((G23.trans (Fr.ext F26)).trans (Fr.ext F31)).trans (Fr.ext F37)) (fun _ h => h)).now.part (n := 8) rfl)) rfl rfl rfl ?_
      obtain ⟨ha44, h⟩ := h
      obtain ⟨ha45, h⟩ := h
      obtain ⟨x43, hx43, h⟩ := h
      refine o_call cf_value_Join rfl (value_Join_c d0 (kVal_mk (d := d0) (H3.fr (G33.trans (Fr.ext F37)) (fun _ h => h)) (H6.fr (G33.trans (Fr.ext F37)) (fun _ h => h))) d1 (kVal_mk (d := d1) (H9.fr (G33.trans (Fr.ext F37)) (fun _ h => h)) (H12.fr (G33.trans (Fr.ext F37)) (fun _ h => h))) (hL.fr E39) (eq_ev hx43 (valJoin_ev d0 d1 ha44 ha45))) rfl rfl ?_
      rintro _ w43 ⟨F43, cs46, rfl, H47⟩
      have E48 := E39.trans F43
      have G51 := (((G23.trans (Fr.ext F26)).trans (Fr.ext F31)).trans (Fr.ext F37)).trans (Fr.ext F43)
      obtain ⟨A52, c53, A55, c56, rfl, H54, H57⟩ := kVal_open H47
      refine o_v (v := .tuple #[.agg (cVal x43.1 A52 c53 A55 c56).toArray, .int .i64 x43.2]) (r_mov rfl) rfl rfl rfl ?_
      refine o_v (v := .agg (cVal x43.1 A52 c53 A55 c56).toArray) (r_ext rfl rfl) rfl rfl rfl ?_
      refine o_v (v := .int .i64 x43.2) (r_ext rfl rfl) rfl rfl rfl ?_
      refine o_alloc zero_api_Value rfl rfl rfl ?_
      intro b58 w58 e58 F58 B58
      have n58 : w.heap.size ≤ b58 := by rw [e58]; exact E48.size
      have m59 : w.heap.size ≤ b58 := by rw [e58]; exact ((G33.trans (Fr.ext F37)).trans (Fr.ext F43)).size
      have m60 : w13.heap.size ≤ b58 := by rw [e58]; exact (G41.trans (Fr.ext F43)).size
      have m61 : w15.heap.size ≤ b58 := by rw [e58]; exact G51.size
      have m62 : w43.heap.size ≤ b58 := Nat.le_of_eq e58.symm
      have E63 := E48.trans F58
      have G67 : Fr L w43 w58 := Fr.ext F58
      refine o_store rfl B58 (vs := (cVal x43.1 A52 c53 A55 c56)) rfl sz_api_Value rfl rfl rfl ?_
      intro w68 F68 B68
      have E69 := Ext.st E63 F68 (by simp; omega)
      have G70 : Fr L w w68 := (((G33.trans (Fr.ext F37)).trans (Fr.ext F43)).trans (Fr.ext F58)).stp F68 (upc (.inr m59) (fun m hm => by cases hm))
      have G71 : Fr L w13 w68 := ((G41.trans (Fr.ext F43)).trans (Fr.ext F58)).stp F68 (upc (.inr m60) (fun m hm => by cases hm))
      have G72 : Fr L w15 w68 := (G51.trans (Fr.ext F58)).stp F68 (upc (.inr m61) (fun m hm => by cases hm))
      have G73 : Fr L w43 w68 := G67.stp F68 (upc (.inr m62) (fun m hm => by cases hm))
      have B68' : Blk w68 b58 _ (cVal x43.1 A52 c53 A55 c56) := B68
      refine o_v (v := .int .i64 x43.2) (r_asg rfl) rfl rfl rfl ?_
      refine eo_nil_sq ?_
      refine ec_seq ?_
      refine ec_region ?_
      refine o_v (v := .agg (cVal d0 A1 c2 A4 c5).toArray) (r_lda agg_api_Value rfl (vs := (cVal d0 A1 c2 A4 c5)) rfl ((S13.fr G71 (fun _ h => h)).now.part (n := 8) rfl)) rfl rfl rfl ?_
      refine o_v (v := .agg (cVal d1 A7 c8 A10 c11).toArray) (r_lda agg_api_Value rfl (vs := (cVal d1 A7 c8 A10 c11)) rfl ((S15.fr G72 (fun _ h => h)).now.part (n := 8) rfl)) rfl rfl rfl ?_
      obtain ⟨ha75, h⟩ := h
      obtain ⟨ha76, h⟩ := h
      obtain ⟨x74, hx74, h⟩ := h
      refine o_call cf_ref06_Join rfl (ref06_Join_c d0 (kVal_mk (d := d0) (H3.up G70 (fun _ h => h) (upc (.inr m59) (fun _ h => .inl h))) (H6.up G70 (fun _ h => h) (upc (.inr m59) (fun _ h => .inl h)))) d1 (kVal_mk (d := d1) (H9.up G70 (fun _ h => h) (upc (.inr m59) (fun _ h => .inl h))) (H12.up G70 (fun _ h => h) (upc (.inr m59) (fun _ h => .inl h)))) ((hL.fr E69).cons B68'.lt) (eq_ev hx74 (refJoin_ev d0 d1 ha75 ha76))) rfl rfl ?_
      rintro _ w74 ⟨F74, cs77, rfl, H78⟩
      have E79 := E69.trans F74
      obtain ⟨A85, c86, A88, c89, rfl, H87, H90⟩ := kVal_open H78
      refine o_v (v := .tuple #[.agg (cVal x74.1 A85 c86 A88 c89).toArray, .int .i64 x74.2]) (r_mov rfl) rfl rfl rfl ?_
      refine o_v (v := .agg (cVal x74.1 A85 c86 A88 c89).toArray) (r_ext rfl rfl) rfl rfl rfl ?_
      refine o_v (v := .int .i64 x74.2) (r_ext rfl rfl) rfl rfl rfl ?_
      refine o_alloc zero_api_Value rfl rfl rfl ?_
      intro b91 w91 e91 F91 B91
      have n91 : w.heap.size ≤ b91 := by rw [e91]; exact E79.size
      have q92 : b58 < b91 := by rw [e91]; exact (B68'.ex F74).lt
      have m93 : w.heap.size ≤ b91 := by rw [e91]; exact (G70.trans (Fr.ext F74)).size
      have m94 : w13.heap.size ≤ b91 := by rw [e91]; exact (G71.trans (Fr.ext F74)).size
      have m95 : w15.heap.size ≤ b91 := by rw [e91]; exact (G72.trans (Fr.ext F74)).size
      have m96 : w43.heap.size ≤ b91 := by rw [e91]; exact (G73.trans (Fr.ext F74)).size
      have m97 : w74.heap.size ≤ b91 := Nat.le_of_eq e91.symm
      have E98 := E79.trans F91
      have G103 : Fr (b58 :: L) w74 w91 := Fr.ext F91
      refine o_store rfl B91 (vs := (cVal x74.1 A85 c86 A88 c89)) rfl sz_api_Value rfl rfl rfl ?_
      intro w105 F105 B105
      have E106 := Ext.st E98 F105 (by simp; omega)
      have G107 : Fr L w w105 := ((G70.trans (Fr.ext F74)).trans (Fr.ext F91)).stp F105 (upc (.inr m93) (fun m hm => by cases hm))
      have G108 : Fr L w13 w105 := ((G71.trans (Fr.ext F74)).trans (Fr.ext F91)).stp F105 (upc (.inr m94) (fun m hm => by cases hm))
      have G109 : Fr L w15 w105 := ((G72.trans (Fr.ext F74)).trans (Fr.ext F91)).stp F105 (upc (.inr m95) (fun m hm => by cases hm))
      have G110 : Fr L w43 w105 := ((G73.trans (Fr.ext F74)).trans (Fr.ext F91)).stp F105 (upc (.inr m96) (fun m hm => by cases hm))
      have G111 : Fr (b58 :: L) w74 w105 := G103.stp F105 (upc (.inr m97) (fun m hm => by cases hm))
      have B112 := ((B68'.ex F74).ex F91).fr F105 (by simp; omega)
      have B105' : Blk w105 b91 _ (cVal x74.1 A85 c86 A88 c89) := B105
      refine o_v (v := .int .i64 x74.2) (r_asg rfl) rfl rfl rfl ?_
      refine eo_nil_sq ?_
      refine ec_seq ?_
      refine ec_region ?_
      refine o_v (v := .int .i64 d2) (r_mov rfl) rfl rfl rfl ?_
      obtain ⟨x113, hx113, h⟩ := h
      refine o_call cf_value_Least rfl (value_Least_c d2 (((hL.fr E106).cons B112.lt).cons B105'.lt) (eq_ev hx113 (valLeast_ev d2))) rfl rfl ?_
      rintro _ w113 ⟨F113, cs114, rfl, H115⟩
      have E116 := E106.trans F113
      obtain ⟨A124, c125, A127, c128, rfl, H126, H129⟩ := kVal_open H115
      refine o_v (v := .tuple #[.agg (cVal x113.1 A124 c125 A127 c128).toArray, .int .i64 x113.2]) (r_mov rfl) rfl rfl rfl ?_
      refine o_v (v := .agg (cVal x113.1 A124 c125 A127 c128).toArray) (r_ext rfl rfl) rfl rfl rfl ?_
      refine o_v (v := .int .i64 x113.2) (r_ext rfl rfl) rfl rfl rfl ?_
      refine o_alloc zero_api_Value rfl rfl rfl ?_
      intro b130 w130 e130 F130 B130
      have n130 : w.heap.size ≤ b130 := by rw [e130]; exact E116.size
      have q131 : b58 < b130 := by rw [e130]; exact (B112.ex F113).lt
      have q132 : b91 < b130 := by rw [e130]; exact (B105'.ex F113).lt
      have m133 : w.heap.size ≤ b130 := by rw [e130]; exact (G107.trans (Fr.ext F113)).size
      have m134 : w13.heap.size ≤ b130 := by rw [e130]; exact (G108.trans (Fr.ext F113)).size
      have m135 : w15.heap.size ≤ b130 := by rw [e130]; exact (G109.trans (Fr.ext F113)).size
      have m136 : w43.heap.size ≤ b130 := by rw [e130]; exact (G110.trans (Fr.ext F113)).size
      have m137 : w74.heap.size ≤ b130 := by rw [e130]; exact (G111.trans (Fr.ext F113)).size
      have m138 : w113.heap.size ≤ b130 := Nat.le_of_eq e130.symm
      have E139 := E116.trans F130
      have G145 : Fr (b91 :: (b58 :: L)) w113 w130 := Fr.ext F130
      refine o_store rfl B130 (vs := (cVal x113.1 A124 c125 A127 c128)) rfl sz_api_Value rfl rfl rfl ?_
      intro w148 F148 B148
      have E149 := Ext.st E139 F148 (by simp; omega)
      have G150 : Fr L w w148 := ((G107.trans (Fr.ext F113)).trans (Fr.ext F130)).stp F148 (upc (.inr m133) (fun m hm => by cases hm))
      have G151 : Fr L w13 w148 := ((G108.trans (Fr.ext F113)).trans (Fr.ext F130)).stp F148 (upc (.inr m134) (fun m hm => by cases hm))
      have G152 : Fr L w15 w148 := ((G109.trans (Fr.ext F113)).trans (Fr.ext F130)).stp F148 (upc (.inr m135) (fun m hm => by cases hm))
      have G153 : Fr L w43 w148 := ((G110.trans (Fr.ext F113)).trans (Fr.ext F130)).stp F148 (upc (.inr m136) (fun m hm => by cases hm))
      have G154 : Fr (b58 :: L) w74 w148 := ((G111.trans (Fr.ext F113)).trans (Fr.ext F130)).stp F148 (upc (.inr m137) (fun m hm => by cases hm))
      have G155 : Fr (b91 :: (b58 :: L)) w113 w148 := G145.stp F148 (upc (.inr m138) (fun m hm => by cases hm))
      have B156 := ((B112.ex F113).ex F130).fr F148 (by simp; omega)
      have B157 := ((B105'.ex F113).ex F130).fr F148 (by simp; omega)
      have B148' : Blk w148 b130 _ (cVal x113.1 A124 c125 A127 c128) := B148
      refine o_v (v := .int .i64 x113.2) (r_asg rfl) rfl rfl rfl ?_
      refine eo_nil_sq ?_
      refine ec_seq ?_
      refine ec_region ?_
      refine o_v (v := .int .i64 d2) (r_mov rfl) rfl rfl rfl ?_
      obtain ⟨x158, hx158, h⟩ := h
      refine o_call cf_ref06_Least rfl (ref06_Least_c d2 ((((hL.fr E149).cons B156.lt).cons B157.lt).cons B148'.lt) (eq_ev hx158 (refLeast_ev d2))) rfl rfl ?_
      rintro _ w158 ⟨F158, cs159, rfl, H160⟩
      have E161 := E149.trans F158
      obtain ⟨A171, c172, A174, c175, rfl, H173, H176⟩ := kVal_open H160
      refine o_v (v := .tuple #[.agg (cVal x158.1 A171 c172 A174 c175).toArray, .int .i64 x158.2]) (r_mov rfl) rfl rfl rfl ?_
      refine o_v (v := .agg (cVal x158.1 A171 c172 A174 c175).toArray) (r_ext rfl rfl) rfl rfl rfl ?_
      refine o_v (v := .int .i64 x158.2) (r_ext rfl rfl) rfl rfl rfl ?_
      refine o_alloc zero_api_Value rfl rfl rfl ?_
      intro b177 w177 e177 F177 B177
      have n177 : w.heap.size ≤ b177 := by rw [e177]; exact E161.size
      have q178 : b58 < b177 := by rw [e177]; exact (B156.ex F158).lt
      have q179 : b91 < b177 := by rw [e177]; exact (B157.ex F158).lt
      have q180 : b130 < b177 := by rw [e177]; exact (B148'.ex F158).lt
      have m181 : w.heap.size ≤ b177 := by rw [e177]; exact (G150.trans (Fr.ext F158)).size
      have m182 : w13.heap.size ≤ b177 := by rw [e177]; exact (G151.trans (Fr.ext F158)).size
      have m183 : w15.heap.size ≤ b177 := by rw [e177]; exact (G152.trans (Fr.ext F158)).size
      have m184 : w43.heap.size ≤ b177 := by rw [e177]; exact (G153.trans (Fr.ext F158)).size
      have m185 : w74.heap.size ≤ b177 := by rw [e177]; exact (G154.trans (Fr.ext F158)).size
      have m186 : w113.heap.size ≤ b177 := by rw [e177]; exact (G155.trans (Fr.ext F158)).size
      have m187 : w158.heap.size ≤ b177 := Nat.le_of_eq e177.symm
      have E188 := E161.trans F177
      have G195 : Fr (b130 :: (b91 :: (b58 :: L))) w158 w177 := Fr.ext F177
      refine o_store rfl B177 (vs := (cVal x158.1 A171 c172 A174 c175)) rfl sz_api_Value rfl rfl rfl ?_
      intro w199 F199 B199
      have E200 := Ext.st E188 F199 (by simp; omega)
      have G201 : Fr L w w199 := ((G150.trans (Fr.ext F158)).trans (Fr.ext F177)).stp F199 (upc (.inr m181) (fun m hm => by cases hm))
      have G202 : Fr L w13 w199 := ((G151.trans (Fr.ext F158)).trans (Fr.ext F177)).stp F199 (upc (.inr m182) (fun m hm => by cases hm))
      have G203 : Fr L w15 w199 := ((G152.trans (Fr.ext F158)).trans (Fr.ext F177)).stp F199 (upc (.inr m183) (fun m hm => by cases hm))
      have G204 : Fr L w43 w199 := ((G153.trans (Fr.ext F158)).trans (Fr.ext F177)).stp F199 (upc (.inr m184) (fun m hm => by cases hm))
      have G205 : Fr (b58 :: L) w74 w199 := ((G154.trans (Fr.ext F158)).trans (Fr.ext F177)).stp F199 (upc (.inr m185) (fun m hm => by cases hm))
      have G206 : Fr (b91 :: (b58 :: L)) w113 w199 := ((G155.trans (Fr.ext F158)).trans (Fr.ext F177)).stp F199 (upc (.inr m186) (fun m hm => by cases hm))
      have G207 : Fr (b130 :: (b91 :: (b58 :: L))) w158 w199 := G195.stp F199 (upc (.inr m187) (fun m hm => by cases hm))
      have B208 := ((B156.ex F158).ex F177).fr F199 (by simp; omega)
      have B209 := ((B157.ex F158).ex F177).fr F199 (by simp; omega)
      have B210 := ((B148'.ex F158).ex F177).fr F199 (by simp; omega)
      have B199' : Blk w199 b177 _ (cVal x158.1 A171 c172 A174 c175) := B199
      refine o_v (v := .int .i64 x158.2) (r_asg rfl) rfl rfl rfl ?_
      refine eo_nil_sq ?_
      refine ec_seq ?_
      refine ec_region ?_
      refine o_v (v := .agg (cVal x43.1 A52 c53 A55 c56).toArray) (r_lda agg_api_Value rfl (vs := (cVal x43.1 A52 c53 A55 c56)) rfl (B208.part (n := 8) rfl)) rfl rfl rfl ?_
      refine o_v (v := .agg (cVal x74.1 A85 c86 A88 c89).toArray) (r_lda agg_api_Value rfl (vs := (cVal x74.1 A85 c86 A88 c89)) rfl (B209.part (n := 8) rfl)) rfl rfl rfl ?_
      obtain ⟨ha213, h⟩ := h
      refine o_call cf_ref06_Same rfl (ref06_Same_c x43.1 (kVal_mk (d := x43.1) (H54.up G204 (fun _ h => h) (upc (.inr m184) (upc (.inr m136) (upc (.inr m96) (upc (.inr m62) (fun _ h => .inl h)))))) (H57.up G204 (fun _ h => h) (upc (.inr m184) (upc (.inr m136) (upc (.inr m96) (upc (.inr m62) (fun _ h => .inl h))))))) x74.1 (kVal_mk (d := x74.1) (H87.up G205 (fun _ h => h) (upc (.inr m185) (upc (.inr m137) (upc (.inr m97) (upc (.inl (List.Mem.head _)) (fun m hm => Or.inl (List.Mem.tail _ hm))))))) (H90.up G205 (fun _ h => h) (upc (.inr m185) (upc (.inr m137) (upc (.inr m97) (upc (.inl (List.Mem.head _)) (fun m hm => Or.inl (List.Mem.tail _ hm)))))))) (((((hL.fr E200).cons B208.lt).cons B209.lt).cons B210.lt).cons B199'.lt) (refSame_ev x43.1 x74.1 ha213)) rfl rfl ?_
      rintro _ w212 ⟨F212, rfl⟩
      have E214 := E200.trans F212
      refine o_v (v := .bool (sameV x43.1 x74.1)) (r_mov rfl) rfl rfl rfl ?_
      refine o_vg (v := .agg (cVal x113.1 A124 c125 A127 c128).toArray) (want_ct (t := 61) rfl rfl) (fun hk => (r_lda agg_api_Value rfl (vs := (cVal x113.1 A124 c125 A127 c128)) rfl ((B210.ex F212).part (n := 8) rfl))) rfl rfl ?_
      refine o_vg (v := .agg (cVal x158.1 A171 c172 A174 c175).toArray) (want_ct (t := 61) rfl rfl) (fun hk => (r_lda agg_api_Value rfl (vs := (cVal x158.1 A171 c172 A174 c175)) rfl ((B199'.ex F212).part (n := 8) rfl))) rfl rfl ?_
      obtain ⟨ha227, h⟩ := h
      refine o_callg (V := .bool (sameV x113.1 x158.1)) cf_ref06_Same (want_ct (t := 61) rfl rfl) (fun hk => (mapv2 (gdT hk) (gdT hk))) (fun hk => (ref06_Same_c x113.1 (kVal_mk (d := x113.1) (H126.up (G206.trans (Fr.ext F212)) (fun _ h => h) (upc (.inr m186) (upc (.inr m138) (upc (.inl (List.Mem.head _)) (upc (.inl (List.Mem.tail _ (List.Mem.head _))) (fun m hm => Or.inl (List.Mem.tail _ (List.Mem.tail _ hm)))))))) (H129.up (G206.trans (Fr.ext F212)) (fun _ h => h) (upc (.inr m186) (upc (.inr m138) (upc (.inl (List.Mem.head _)) (upc (.inl (List.Mem.tail _ (List.Mem.head _))) (fun m hm => Or.inl (List.Mem.tail _ (List.Mem.tail _ hm))))))))) x158.1 (kVal_mk (d := x158.1) (H173.up (G207.trans (Fr.ext F212)) (fun _ h => h) (upc (.inr m187) (upc (.inl (List.Mem.head _)) (upc (.inl (List.Mem.tail _ (List.Mem.head _))) (upc (.inl (List.Mem.tail _ (List.Mem.tail _ (List.Mem.head _)))) (fun m hm => Or.inl (List.Mem.tail _ (List.Mem.tail _ (List.Mem.tail _ hm))))))))) (H176.up (G207.trans (Fr.ext F212)) (fun _ h => h) (upc (.inr m187) (upc (.inl (List.Mem.head _)) (upc (.inl (List.Mem.tail _ (List.Mem.head _))) (upc (.inl (List.Mem.tail _ (List.Mem.tail _ (List.Mem.head _)))) (fun m hm => Or.inl (List.Mem.tail _ (List.Mem.tail _ (List.Mem.tail _ hm)))))))))) (((((hL.fr E214).cons (B208.ex F212).lt).cons (B209.ex F212).lt).cons (B210.ex F212).lt).cons (B199'.ex F212).lt) (refSame_ev x113.1 x158.1 (ha227 hk)))) rfl ?_
      intro w226 F226
      have E228 := E214.trans F226
      refine o_v (v := .bool ((sameV x43.1 x74.1) && (sameV x113.1 x158.1))) (r_pickAnd rfl (fun ht => (gdT ht)) rfl) rfl rfl rfl ?_
      refine o_v (v := .bool ((sameV x43.1 x74.1) && (sameV x113.1 x158.1))) (r_asg rfl) rfl rfl rfl ?_
      refine eo_nil_sq ?_
      refine ec_seq ?_
      refine ec_region ?_
      refine o_v (v := .agg (cVal d0 A1 c2 A4 c5).toArray) (r_lda agg_api_Value rfl (vs := (cVal d0 A1 c2 A4 c5)) rfl ((S13.fr ((G202.trans (Fr.ext F212)).trans (Fr.ext F226)) (fun _ h => h)).now.part (n := 8) rfl)) rfl rfl rfl ?_
      refine o_v (v := .agg (cVal d1 A7 c8 A10 c11).toArray) (r_lda agg_api_Value rfl (vs := (cVal d1 A7 c8 A10 c11)) rfl ((S15.fr ((G203.trans (Fr.ext F212)).trans (Fr.ext F226)) (fun _ h => h)).now.part (n := 8) rfl)) rfl rfl rfl ?_
      obtain ⟨ha241, h⟩ := h
      obtain ⟨ha242, h⟩ := h
      refine o_call cf_ref06_Below rfl (ref06_Below_c d0 (kVal_mk (d := d0) (H3.up ((G201.trans (Fr.ext F212)).trans (Fr.ext F226)) (fun _ h => h) (upc (.inr m181) (upc (.inr m133) (upc (.inr m93) (upc (.inr m59) (fun _ h => .inl h)))))) (H6.up ((G201.trans (Fr.ext F212)).trans (Fr.ext F226)) (fun _ h => h) (upc (.inr m181) (upc (.inr m133) (upc (.inr m93) (upc (.inr m59) (fun _ h => .inl h))))))) d1 (kVal_mk (d := d1) (H9.up ((G201.trans (Fr.ext F212)).trans (Fr.ext F226)) (fun _ h => h) (upc (.inr m181) (upc (.inr m133) (upc (.inr m93) (upc (.inr m59) (fun _ h => .inl h)))))) (H12.up ((G201.trans (Fr.ext F212)).trans (Fr.ext F226)) (fun _ h => h) (upc (.inr m181) (upc (.inr m133) (upc (.inr m93) (upc (.inr m59) (fun _ h => .inl h))))))) (((((hL.fr E228).cons ((B208.ex F212).ex F226).lt).cons ((B209.ex F212).ex F226).lt).cons ((B210.ex F212).ex F226).lt).cons ((B199'.ex F212).ex F226).lt) (refBelow_ev d0 d1 ha241 ha242)) rfl rfl ?_
      rintro _ w240 ⟨F240, rfl⟩
      have E243 := E228.trans F240
      have G244 := ((G201.trans (Fr.ext F212)).trans (Fr.ext F226)).trans (Fr.ext F240)
      have G245 := ((G202.trans (Fr.ext F212)).trans (Fr.ext F226)).trans (Fr.ext F240)
      have G246 := ((G203.trans (Fr.ext F212)).trans (Fr.ext F226)).trans (Fr.ext F240)
      refine o_v (v := .bool (belowV d0 d1)) (r_asg rfl) rfl rfl rfl ?_
      refine eo_nil_sq ?_
      refine ec_seq ?_
      refine ec_region ?_
      refine o_v (v := .agg (cVal d0 A1 c2 A4 c5).toArray) (r_lda agg_api_Value rfl (vs := (cVal d0 A1 c2 A4 c5)) rfl ((S13.fr G245 (fun _ h => h)).now.part (n := 8) rfl)) rfl rfl rfl ?_
      refine o_v (v := .agg (cVal d1 A7 c8 A10 c11).toArray) (r_lda agg_api_Value rfl (vs := (cVal d1 A7 c8 A10 c11)) rfl ((S15.fr G246 (fun _ h => h)).now.part (n := 8) rfl)) rfl rfl rfl ?_
      obtain ⟨ha256, h⟩ := h
      refine o_call cf_ref06_Same rfl (ref06_Same_c d0 (kVal_mk (d := d0) (H3.up G244 (fun _ h => h) (upc (.inr m181) (upc (.inr m133) (upc (.inr m93) (upc (.inr m59) (fun _ h => .inl h)))))) (H6.up G244 (fun _ h => h) (upc (.inr m181) (upc (.inr m133) (upc (.inr m93) (upc (.inr m59) (fun _ h => .inl h))))))) d1 (kVal_mk (d := d1) (H9.up G244 (fun _ h => h) (upc (.inr m181) (upc (.inr m133) (upc (.inr m93) (upc (.inr m59) (fun _ h => .inl h)))))) (H12.up G244 (fun _ h => h) (upc (.inr m181) (upc (.inr m133) (upc (.inr m93) (upc (.inr m59) (fun _ h => .inl h))))))) (((((hL.fr E243).cons (((B208.ex F212).ex F226).ex F240).lt).cons (((B209.ex F212).ex F226).ex F240).lt).cons (((B210.ex F212).ex F226).ex F240).lt).cons (((B199'.ex F212).ex F226).ex F240).lt) (refSame_ev d0 d1 ha256)) rfl rfl ?_
      rintro _ w255 ⟨F255, rfl⟩
      have E257 := E243.trans F255
      refine o_v (v := .bool (sameV d0 d1)) (r_asg rfl) rfl rfl rfl ?_
      refine eo_nil_sq ?_
      refine ec_seq ?_
      refine ec_region ?_
      refine o_v (v := .agg (cVal d0 A1 c2 A4 c5).toArray) (r_lda agg_api_Value rfl (vs := (cVal d0 A1 c2 A4 c5)) rfl ((S13.fr (G245.trans (Fr.ext F255)) (fun _ h => h)).now.part (n := 8) rfl)) rfl rfl rfl ?_
      obtain ⟨ha270, h⟩ := h
      refine o_call cf_ref06_Sum rfl (ref06_Sum_c d0 (kVal_mk (d := d0) (H3.up (G244.trans (Fr.ext F255)) (fun _ h => h) (upc (.inr m181) (upc (.inr m133) (upc (.inr m93) (upc (.inr m59) (fun _ h => .inl h)))))) (H6.up (G244.trans (Fr.ext F255)) (fun _ h => h) (upc (.inr m181) (upc (.inr m133) (upc (.inr m93) (upc (.inr m59) (fun _ h => .inl h))))))) (((((hL.fr E257).cons ((((B208.ex F212).ex F226).ex F240).ex F255).lt).cons ((((B209.ex F212).ex F226).ex F240).ex F255).lt).cons ((((B210.ex F212).ex F226).ex F240).ex F255).lt).cons ((((B199'.ex F212).ex F226).ex F240).ex F255).lt) (refSum_ev d0 ha270)) rfl rfl ?_
      rintro _ w269 ⟨F269, rfl⟩
      have E271 := E257.trans F269
      refine o_v (v := .int .i64 (sumV d0)) (r_asg rfl) rfl rfl rfl ?_
      refine eo_nil_sq ?_
      refine ec_seq ?_
      refine ec_region ?_
      refine o_v (v := .bool (worksV)) (r_mov rfl) rfl rfl rfl ?_
      refine o_v (v := .bool (worksV)) (r_mov rfl) rfl rfl rfl ?_
      refine o_v (v := .agg (cVal d0 A1 c2 A4 c5).toArray) (r_lda agg_api_Value rfl (vs := (cVal d0 A1 c2 A4 c5)) rfl ((S13.fr ((G245.trans (Fr.ext F255)).trans (Fr.ext F269)) (fun _ h => h)).now.part (n := 8) rfl)) (want_t (t := 75) rfl rfl (of_not hc24)) rfl rfl ?_
      obtain ⟨ha287, h⟩ := h
      refine o_call cf_value_Check rfl (value_Check_c d0 (kVal_mk (d := d0) (H3.up ((G244.trans (Fr.ext F255)).trans (Fr.ext F269)) (fun _ h => h) (upc (.inr m181) (upc (.inr m133) (upc (.inr m93) (upc (.inr m59) (fun _ h => .inl h)))))) (H6.up ((G244.trans (Fr.ext F255)).trans (Fr.ext F269)) (fun _ h => h) (upc (.inr m181) (upc (.inr m133) (upc (.inr m93) (upc (.inr m59) (fun _ h => .inl h))))))) (((((hL.fr E271).cons (((((B208.ex F212).ex F226).ex F240).ex F255).ex F269).lt).cons (((((B209.ex F212).ex F226).ex F240).ex F255).ex F269).lt).cons (((((B210.ex F212).ex F226).ex F240).ex F255).ex F269).lt).cons (((((B199'.ex F212).ex F226).ex F240).ex F255).ex F269).lt) (valCheck_ev d0 ha287)) (want_t (t := 75) rfl rfl (of_not hc24)) rfl ?_
      rintro _ w286 ⟨F286, rfl⟩
      have E288 := E271.trans F286
      have G289 := ((G244.trans (Fr.ext F255)).trans (Fr.ext F269)).trans (Fr.ext F286)
      have G290 := ((G245.trans (Fr.ext F255)).trans (Fr.ext F269)).trans (Fr.ext F286)
      have G291 := ((G246.trans (Fr.ext F255)).trans (Fr.ext F269)).trans (Fr.ext F286)
      refine o_v (v := .bool ((checkV d0) == (0 : Int))) (r_int rfl rfl rfl) (want_t (t := 75) rfl rfl (of_not hc24)) rfl rfl ?_
      refine o_v (v := .bool (okV d0)) (r_mov rfl) (want_t (t := 75) rfl rfl (of_not hc24)) rfl rfl ?_
      refine o_v (v := .bool (((checkV d0) == (0 : Int)) == (okV d0))) (r_boolEq un_bool rfl rfl) (want_t (t := 75) rfl rfl (of_not hc24)) rfl rfl ?_
      refine o_v (v := .bool (((checkV d0) == (0 : Int)) == (okV d0))) (r_pickT rfl (of_not hc24) rfl) rfl rfl rfl ?_
      refine o_v (v := .bool (((checkV d0) == (0 : Int)) == (okV d0))) (r_mov rfl) rfl rfl rfl ?_
      refine o_vg (v := .bool ((sameV x43.1 x74.1) && (sameV x113.1 x158.1))) (want_ct (t := 82) rfl rfl) (fun hk => (r_mov rfl)) rfl rfl ?_
      refine o_v (v := .bool ((((checkV d0) == (0 : Int)) == (okV d0)) && ((sameV x43.1 x74.1) && (sameV x113.1 x158.1)))) (r_pickAnd rfl (fun ht => (gdT ht)) rfl) rfl rfl rfl ?_
      refine o_v (v := .bool ((((checkV d0) == (0 : Int)) == (okV d0)) && ((sameV x43.1 x74.1) && (sameV x113.1 x158.1)))) (r_mov rfl) rfl rfl rfl ?_
      refine o_vg (v := .int .i64 x43.2) (want_ct (t := 85) rfl rfl) (fun hk => (r_mov rfl)) rfl rfl ?_
      refine o_vg (v := .int .i64 x74.2) (want_ct (t := 85) rfl rfl) (fun hk => (r_mov rfl)) rfl rfl ?_
      refine o_vg (v := .bool (x43.2 == x74.2)) (want_ct (t := 85) rfl rfl) (fun hk => (r_int (gdT hk) (gdT hk) rfl)) rfl rfl ?_
      refine o_v (v := .bool (((((checkV d0) == (0 : Int)) == (okV d0)) && ((sameV x43.1 x74.1) && (sameV x113.1 x158.1))) && (x43.2 == x74.2))) (r_pickAnd rfl (fun ht => (gdT ht)) rfl) rfl rfl rfl ?_
      refine o_v (v := .bool (((((checkV d0) == (0 : Int)) == (okV d0)) && ((sameV x43.1 x74.1) && (sameV x113.1 x158.1))) && (x43.2 == x74.2))) (r_mov rfl) rfl rfl rfl ?_
      refine o_vg (v := .int .i64 x113.2) (want_ct (t := 90) rfl rfl) (fun hk => (r_mov rfl)) rfl rfl ?_
      refine o_vg (v := .int .i64 x158.2) (want_ct (t := 90) rfl rfl) (fun hk => (r_mov rfl)) rfl rfl ?_
      refine o_vg (v := .bool (x113.2 == x158.2)) (want_ct (t := 90) rfl rfl) (fun hk => (r_int (gdT hk) (gdT hk) rfl)) rfl rfl ?_
      refine o_v (v := .bool ((((((checkV d0) == (0 : Int)) == (okV d0)) && ((sameV x43.1 x74.1) && (sameV x113.1 x158.1))) && (x43.2 == x74.2)) && (x113.2 == x158.2))) (r_pickAnd rfl (fun ht => (gdT ht)) rfl) rfl rfl rfl ?_
      refine o_v (v := .bool ((((((checkV d0) == (0 : Int)) == (okV d0)) && ((sameV x43.1 x74.1) && (sameV x113.1 x158.1))) && (x43.2 == x74.2)) && (x113.2 == x158.2))) (r_mov rfl) rfl rfl rfl ?_
      refine o_vg (v := .agg (cVal d0 A1 c2 A4 c5).toArray) (want_ct (t := 95) rfl rfl) (fun hk => (r_lda agg_api_Value rfl (vs := (cVal d0 A1 c2 A4 c5)) rfl ((S13.fr G290 (fun _ h => h)).now.part (n := 8) rfl))) rfl rfl ?_
      refine o_vg (v := .agg (cVal d1 A7 c8 A10 c11).toArray) (want_ct (t := 95) rfl rfl) (fun hk => (r_lda agg_api_Value rfl (vs := (cVal d1 A7 c8 A10 c11)) rfl ((S15.fr G291 (fun _ h => h)).now.part (n := 8) rfl))) rfl rfl ?_
      obtain ⟨ha301, h⟩ := h
      obtain ⟨ha302, h⟩ := h
      refine o_callg (V := .bool (belowV d0 d1)) cf_value_Below (want_ct (t := 95) rfl rfl) (fun hk => (mapv2 (gdT hk) (gdT hk))) (fun hk => (value_Below_c d0 (kVal_mk (d := d0) (H3.up G289 (fun _ h => h) (upc (.inr m181) (upc (.inr m133) (upc (.inr m93) (upc (.inr m59) (fun _ h => .inl h)))))) (H6.up G289 (fun _ h => h) (upc (.inr m181) (upc (.inr m133) (upc (.inr m93) (upc (.inr m59) (fun _ h => .inl h))))))) d1 (kVal_mk (d := d1) (H9.up G289 (fun _ h => h) (upc (.inr m181) (upc (.inr m133) (upc (.inr m93) (upc (.inr m59) (fun _ h => .inl h)))))) (H12.up G289 (fun _ h => h) (upc (.inr m181) (upc (.inr m133) (upc (.inr m93) (upc (.inr m59) (fun _ h => .inl h))))))) (((((hL.fr E288).cons ((((((B208.ex F212).ex F226).ex F240).ex F255).ex F269).ex F286).lt).cons ((((((B209.ex F212).ex F226).ex F240).ex F255).ex F269).ex F286).lt).cons ((((((B210.ex F212).ex F226).ex F240).ex F255).ex F269).ex F286).lt).cons ((((((B199'.ex F212).ex F226).ex F240).ex F255).ex F269).ex F286).lt) (valBelow_ev d0 d1 (ha301 hk) (ha302 hk)))) rfl ?_
      intro w300 F300
      have E303 := E288.trans F300
      have B311 := ((((((B208.ex F212).ex F226).ex F240).ex F255).ex F269).ex F286).ex F300
      have B312 := ((((((B209.ex F212).ex F226).ex F240).ex F255).ex F269).ex F286).ex F300
      have B313 := ((((((B210.ex F212).ex F226).ex F240).ex F255).ex F269).ex F286).ex F300
      have B314 := ((((((B199'.ex F212).ex F226).ex F240).ex F255).ex F269).ex F286).ex F300
      refine o_vg (v := .bool (belowV d0 d1)) (want_ct (t := 95) rfl rfl) (fun hk => (r_mov rfl)) rfl rfl ?_
      refine o_vg (v := .bool ((belowV d0 d1) == (belowV d0 d1))) (want_ct (t := 95) rfl rfl) (fun hk => (r_boolEq un_bool (gdT hk) (gdT hk))) rfl rfl ?_
      refine o_v (v := .bool (((((((checkV d0) == (0 : Int)) == (okV d0)) && ((sameV x43.1 x74.1) && (sameV x113.1 x158.1))) && (x43.2 == x74.2)) && (x113.2 == x158.2)) && ((belowV d0 d1) == (belowV d0 d1)))) (r_pickAnd rfl (fun ht => (gdT ht)) rfl) rfl rfl rfl ?_
      refine o_v (v := .bool (((((((checkV d0) == (0 : Int)) == (okV d0)) && ((sameV x43.1 x74.1) && (sameV x113.1 x158.1))) && (x43.2 == x74.2)) && (x113.2 == x158.2)) && ((belowV d0 d1) == (belowV d0 d1)))) (r_mov rfl) rfl rfl rfl ?_
      refine o_vg (v := .agg (cVal d0 A1 c2 A4 c5).toArray) (want_ct (t := 102) rfl rfl) (fun hk => (r_lda agg_api_Value rfl (vs := (cVal d0 A1 c2 A4 c5)) rfl ((S13.fr (G290.trans (Fr.ext F300)) (fun _ h => h)).now.part (n := 8) rfl))) rfl rfl ?_
      refine o_vg (v := .agg (cVal d1 A7 c8 A10 c11).toArray) (want_ct (t := 102) rfl rfl) (fun hk => (r_lda agg_api_Value rfl (vs := (cVal d1 A7 c8 A10 c11)) rfl ((S15.fr (G291.trans (Fr.ext F300)) (fun _ h => h)).now.part (n := 8) rfl))) rfl rfl ?_
      obtain ⟨ha316, h⟩ := h
      refine o_callg (V := .bool (sameV d0 d1)) cf_value_Same (want_ct (t := 102) rfl rfl) (fun hk => (mapv2 (gdT hk) (gdT hk))) (fun hk => (value_Same_c d0 (kVal_mk (d := d0) (H3.up (G289.trans (Fr.ext F300)) (fun _ h => h) (upc (.inr m181) (upc (.inr m133) (upc (.inr m93) (upc (.inr m59) (fun _ h => .inl h)))))) (H6.up (G289.trans (Fr.ext F300)) (fun _ h => h) (upc (.inr m181) (upc (.inr m133) (upc (.inr m93) (upc (.inr m59) (fun _ h => .inl h))))))) d1 (kVal_mk (d := d1) (H9.up (G289.trans (Fr.ext F300)) (fun _ h => h) (upc (.inr m181) (upc (.inr m133) (upc (.inr m93) (upc (.inr m59) (fun _ h => .inl h)))))) (H12.up (G289.trans (Fr.ext F300)) (fun _ h => h) (upc (.inr m181) (upc (.inr m133) (upc (.inr m93) (upc (.inr m59) (fun _ h => .inl h))))))) (((((hL.fr E303).cons B311.lt).cons B312.lt).cons B313.lt).cons B314.lt) (valSame_ev d0 d1 (ha316 hk)))) rfl ?_
      intro w315 F315
      have E317 := E303.trans F315
      refine o_vg (v := .bool (sameV d0 d1)) (want_ct (t := 102) rfl rfl) (fun hk => (r_mov rfl)) rfl rfl ?_
      refine o_vg (v := .bool ((sameV d0 d1) == (sameV d0 d1))) (want_ct (t := 102) rfl rfl) (fun hk => (r_boolEq un_bool (gdT hk) (gdT hk))) rfl rfl ?_
      refine o_v (v := .bool ((((((((checkV d0) == (0 : Int)) == (okV d0)) && ((sameV x43.1 x74.1) && (sameV x113.1 x158.1))) && (x43.2 == x74.2)) && (x113.2 == x158.2)) && ((belowV d0 d1) == (belowV d0 d1))) && ((sameV d0 d1) == (sameV d0 d1)))) (r_pickAnd rfl (fun ht => (gdT ht)) rfl) rfl rfl rfl ?_
      refine o_v (v := .bool ((((((((checkV d0) == (0 : Int)) == (okV d0)) && ((sameV x43.1 x74.1) && (sameV x113.1 x158.1))) && (x43.2 == x74.2)) && (x113.2 == x158.2)) && ((belowV d0 d1) == (belowV d0 d1))) && ((sameV d0 d1) == (sameV d0 d1)))) (r_mov rfl) rfl rfl rfl ?_
      refine o_vg (v := .agg (cVal d0 A1 c2 A4 c5).toArray) (want_ct (t := 109) rfl rfl) (fun hk => (r_lda agg_api_Value rfl (vs := (cVal d0 A1 c2 A4 c5)) rfl ((S13.fr ((G290.trans (Fr.ext F300)).trans (Fr.ext F315)) (fun _ h => h)).now.part (n := 8) rfl))) rfl rfl ?_
      obtain ⟨ha330, h⟩ := h
      refine o_callg (V := .int .i64 (sumV d0)) cf_value_Sum (want_ct (t := 109) rfl rfl) (fun hk => (mapv1 (gdT hk))) (fun hk => (value_Sum_c d0 (kVal_mk (d := d0) (H3.up ((G289.trans (Fr.ext F300)).trans (Fr.ext F315)) (fun _ h => h) (upc (.inr m181) (upc (.inr m133) (upc (.inr m93) (upc (.inr m59) (fun _ h => .inl h)))))) (H6.up ((G289.trans (Fr.ext F300)).trans (Fr.ext F315)) (fun _ h => h) (upc (.inr m181) (upc (.inr m133) (upc (.inr m93) (upc (.inr m59) (fun _ h => .inl h))))))) (((((hL.fr E317).cons (B311.ex F315).lt).cons (B312.ex F315).lt).cons (B313.ex F315).lt).cons (B314.ex F315).lt) (valSum_ev d0 (ha330 hk)))) rfl ?_
      intro w329 F329
      have E331 := E317.trans F329
      refine o_vg (v := .int .i64 (sumV d0)) (want_ct (t := 109) rfl rfl) (fun hk => (r_mov rfl)) rfl rfl ?_
      refine o_vg (v := .bool ((sumV d0) == (sumV d0))) (want_ct (t := 109) rfl rfl) (fun hk => (r_int (gdT hk) (gdT hk) rfl)) rfl rfl ?_
      refine o_v (v := .bool (((((((((checkV d0) == (0 : Int)) == (okV d0)) && ((sameV x43.1 x74.1) && (sameV x113.1 x158.1))) && (x43.2 == x74.2)) && (x113.2 == x158.2)) && ((belowV d0 d1) == (belowV d0 d1))) && ((sameV d0 d1) == (sameV d0 d1))) && ((sumV d0) == (sumV d0)))) (r_pickAnd rfl (fun ht => (gdT ht)) rfl) rfl rfl rfl ?_
      refine o_v (v := .bool (((((((((checkV d0) == (0 : Int)) == (okV d0)) && ((sameV x43.1 x74.1) && (sameV x113.1 x158.1))) && (x43.2 == x74.2)) && (x113.2 == x158.2)) && ((belowV d0 d1) == (belowV d0 d1))) && ((sameV d0 d1) == (sameV d0 d1))) && ((sumV d0) == (sumV d0)))) (r_asg rfl) rfl rfl rfl ?_
      refine eo_nil_sq ?_
      refine ec_ret ?_
      subst h
      exact (end1 rfl ⟨_, rfl, E331, rfl⟩)
end Go.Proofs.Ytdojgmmpcdbeoaa
