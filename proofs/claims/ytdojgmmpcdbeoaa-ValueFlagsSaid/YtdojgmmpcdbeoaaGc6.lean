/- The law ValueFlags: what it comes to. -/
import Derived.Test.YtdojgmmpcdbeoaaGb
namespace Go.Proofs.Ytdojgmmpcdbeoaa
open Go Go.RowKit
set_option linter.unusedVariables false
set_option linter.unusedSimpArgs false
def law06_ValueFlags_b110 (d2 : Val) (d3 : Val) (x69 : Val × Int) (s110 : Int) (z110 : (Int) ⊕ ((Int) ⊕ (Bool))) : Prop :=
  ((decide (s110 < (8 : Int))) = true → ((((nth x69.1.plus s110) != (max (nth d2.plus s110) (nth d3.plus s110))) = true → ((0 ≤ s110 ∧ s110 < (x69.1.plus.length : Int)) ∧ ((0 ≤ s110 ∧ s110 < (d2.plus.length : Int)) ∧ ((0 ≤ s110 ∧ s110 < (d3.plus.length : Int)) ∧ (z110 = .inr (.inr false)))))) ∧ (((nth x69.1.plus s110) != (max (nth d2.plus s110) (nth d3.plus s110))) = false → ((0 ≤ s110 ∧ s110 < (x69.1.plus.length : Int)) ∧ ((0 ≤ s110 ∧ s110 < (d2.plus.length : Int)) ∧ ((0 ≤ s110 ∧ s110 < (d3.plus.length : Int)) ∧ ((0 ≤ s110 ∧ s110 < (x69.1.minus.length : Int)) ∧ ((0 ≤ s110 ∧ s110 < (d2.minus.length : Int)) ∧ ((0 ≤ s110 ∧ s110 < (d3.minus.length : Int)) ∧ ((((nth x69.1.minus s110) != (max (nth d2.minus s110) (nth d3.minus s110))) = true → (z110 = .inr (.inr false))) ∧ (((nth x69.1.minus s110) != (max (nth d2.minus s110) (nth d3.minus s110))) = false → (z110 = .inl (IntKind.i64.wrap (s110 + (1 : Int))))))))))))))) ∧ ((decide (s110 < (8 : Int))) = false → (z110 = .inr (.inl s110)))
def law06_ValueFlags_raw (d0 : Int) (d1 : Int) (d2 : Val) (d3 : Val) (y : Bool) : Prop :=
  ((!(worksV)) = true → (y = false)) ∧ ((!(worksV)) = false → (((!((fewV d2) && (fewV d3))) = true → (y = (worksV))) ∧ ((!((fewV d2) && (fewV d3))) = false → ((sm (⟨(3 : Int), (0 : Int), (0 : Int), false, ([] : Str), ([] : List Int), ([] : List Int), d0⟩ : Val)) ∧ ((sm (⟨(3 : Int), (0 : Int), (0 : Int), false, ([] : Str), ([] : List Int), ([] : List Int), d1⟩ : Val)) ∧ (∃ x37, x37 = (joinV (⟨(3 : Int), (0 : Int), (0 : Int), false, ([] : Str), ([] : List Int), ([] : List Int), d0⟩ : Val) (⟨(3 : Int), (0 : Int), (0 : Int), false, ([] : Str), ([] : List Int), ([] : List Int), d1⟩ : Val)) ∧ ((((x37.2 != (0 : Int)) || (x37.1.flags != (IntKind.u64.wrap ((BitVec.ofInt IntKind.u64.bits d0 ||| BitVec.ofInt IntKind.u64.bits d1).toNat : Int)))) = true → (y = false)) ∧ (((x37.2 != (0 : Int)) || (x37.1.flags != (IntKind.u64.wrap ((BitVec.ofInt IntKind.u64.bits d0 ||| BitVec.ofInt IntKind.u64.bits d1).toNat : Int)))) = false → ((sm d2) ∧ ((sm d3) ∧ (∃ x69, x69 = (joinV d2 d3) ∧ ((((x69.2 != (0 : Int)) || (d2.kind != (2 : Int))) = true → (y = (worksV))) ∧ (((x69.2 != (0 : Int)) || (d2.kind != (2 : Int))) = false → (((((x69.1.plus.length : Int) != (8 : Int)) || ((x69.1.minus.length : Int) != (8 : Int))) = true → (y = false)) ∧ ((((x69.1.plus.length : Int) != (8 : Int)) || ((x69.1.minus.length : Int) != (8 : Int))) = false → (∃ x110, LoopR (law06_ValueFlags_b110 d2 d3 x69) (0 : Int) x110 ∧ (∀ sx110, x110 = .inl sx110 → (y = (worksV))) ∧ (∀ y110, x110 = .inr y110 → (y = y110))))))))))))))))))
set_option maxRecDepth 20000 in
set_option maxHeartbeats 4000000 in
theorem law06_ValueFlags_c {L : List Nat} {w : World} (d0 : Int) (d1 : Int) {csP2 : List Value} (d2 : Val) (HP2 : Stb L w (fun w => kVal.r w csP2 d2)) {csP3 : List Value} (d3 : Val) (HP3 : Stb L w (fun w => kVal.r w csP3 d3)) (hL : Lt L w) {y : Bool} (h : law06_ValueFlags_raw d0 d1 d2 d3 y) :
    Calls Try.prog 9 [.int .u64 d0, .int .u64 d1, .agg csP2.toArray, .agg csP3.toArray].toArray w (Ret fun v w' => Ext w w' ∧ v = .bool y) := by
  obtain ⟨A1, c2, A4, c5, rfl, H3, H6⟩ := kVal_open HP2
  obtain ⟨A7, c8, A10, c11, rfl, H9, H12⟩ := kVal_open HP3
  unfold law06_ValueFlags_raw at h
  refine calls_ec Try.func9 rfl rfl rfl ?_
  refine ec_seq ?_
  refine ec_region ?_
  refine o_box (cs := (cVal d2 A1 c2 A4 c5)) rfl rfl rfl ?_
  intro b13 w13 e13 F13 B13
  have S13 := B13.stb (nin hL e13)
  have G14 : Fr L w w13 := Fr.ext F13
  refine o_box (cs := (cVal d3 A7 c8 A10 c11)) rfl rfl rfl ?_
  intro b15 w15 e15 F15 B15
  have S15 := B15.stb (nin (hL.fr F13) e15)
  have E16 := F13.trans F15
  have G18 : Fr L w13 w15 := Fr.ext F15
  refine o_v (v := .bool false) (r_asg rfl) rfl rfl rfl ?_
  refine eo_nil_sq ?_
  refine ec_seq ?_
  refine ec_region ?_
  refine o_call cf_law06_works rfl (law06_works_c (hL.fr E16) (works_ev)) rfl rfl ?_
  rintro _ w19 ⟨F19, rfl⟩
  have E20 := E16.trans F19
  have G23 : Fr L w15 w19 := Fr.ext F19
  refine o_v (v := .bool (worksV)) (r_asg rfl) rfl rfl rfl ?_
  refine eo_nil_sq ?_
  refine ec_seq ?_
  refine ec_seq ?_
  refine ec_region ?_
  refine o_v (v := .bool (worksV)) (r_mov rfl) rfl rfl rfl ?_
  refine o_v (v := .bool (!(worksV))) (r_not rfl) rfl rfl rfl ?_
  refine eo_nil_sq ?_
  refine ec_cond rfl (fun hc24 => ?_) (fun hc24 => ?_)
  · replace h := h.1 hc24
    refine ec_seq ?_
    refine ec_region ?_
    refine o_v (v := .bool false) (r_asg rfl) rfl rfl rfl ?_
    refine eo_nil_sq ?_
    refine ec_ret ?_
    refine sq_ret ?_
    subst h
    exact (end1 rfl ⟨_, rfl, E20, rfl⟩)
  · replace h := h.2 hc24
    refine ec_skip ?_
    refine sq_n ?_
    refine ec_seq ?_
    refine ec_region ?_
    refine o_v (v := .agg (cVal d2 A1 c2 A4 c5).toArray) (r_lda agg_api_Value rfl (vs := (cVal d2 A1 c2 A4 c5)) rfl ((S13.fr (G18.trans (Fr.ext F19)) (fun _ h => h)).now.part (n := 8) rfl)) rfl rfl rfl ?_
    refine o_call cf_law06_Few rfl (law06_Few_c d2 (kVal_mk (d := d2) (H3.fr ((G14.trans (Fr.ext F15)).trans (Fr.ext F19)) (fun _ h => h)) (H6.fr ((G14.trans (Fr.ext F15)).trans (Fr.ext F19)) (fun _ h => h))) (hL.fr E20) (few_ev d2)) rfl rfl ?_
    rintro _ w26 ⟨F26, rfl⟩
    have E27 := E20.trans F26
    refine o_v (v := .bool (fewV d2)) (r_mov rfl) rfl rfl rfl ?_
    refine o_vg (v := .agg (cVal d3 A7 c8 A10 c11).toArray) (want_ct (t := 21) rfl rfl) (fun hk => (r_lda agg_api_Value rfl (vs := (cVal d3 A7 c8 A10 c11)) rfl ((S15.fr (G23.trans (Fr.ext F26)) (fun _ h => h)).now.part (n := 8) rfl))) rfl rfl ?_
    refine o_callg (V := .bool (fewV d3)) cf_law06_Few (want_ct (t := 21) rfl rfl) (fun hk => (mapv1 (gdT hk))) (fun hk => (law06_Few_c d3 (kVal_mk (d := d3) (H9.fr (((G14.trans (Fr.ext F15)).trans (Fr.ext F19)).trans (Fr.ext F26)) (fun _ h => h)) (H12.fr (((G14.trans (Fr.ext F15)).trans (Fr.ext F19)).trans (Fr.ext F26)) (fun _ h => h))) (hL.fr E27) (few_ev d3))) rfl ?_
    intro w31 F31
    have E32 := E27.trans F31
    have G33 := (((G14.trans (Fr.ext F15)).trans (Fr.ext F19)).trans (Fr.ext F26)).trans (Fr.ext F31)
    refine o_v (v := .bool ((fewV d2) && (fewV d3))) (r_pickAnd rfl (fun ht => (gdT ht)) rfl) rfl rfl rfl ?_
    refine o_v (v := .bool ((fewV d2) && (fewV d3))) (r_asg rfl) rfl rfl rfl ?_
    refine eo_nil_sq ?_
    refine ec_seq ?_
    refine ec_seq ?_
    refine ec_region ?_
    refine o_v (v := .bool ((fewV d2) && (fewV d3))) (r_mov rfl) rfl rfl rfl ?_
    refine o_v (v := .bool (!((fewV d2) && (fewV d3)))) (r_not rfl) rfl rfl rfl ?_
    refine eo_nil_sq ?_
    refine ec_cond rfl (fun hc36 => ?_) (fun hc36 => ?_)
    · replace h := h.1 hc36
      refine ec_seq ?_
      refine ec_region ?_
      refine o_v (v := .bool (worksV)) (r_mov rfl) rfl rfl rfl ?_
      refine o_v (v := .bool (worksV)) (r_asg rfl) rfl rfl rfl ?_
      refine eo_nil_sq ?_
      refine ec_ret ?_
      refine sq_ret ?_
      subst h
      exact (end1 rfl ⟨_, rfl, E32, rfl⟩)
    · replace h := h.2 hc36
      refine ec_skip ?_
      refine sq_n ?_
      refine ec_seq ?_
      refine ec_region ?_
      refine o_v (v := .int .u64 d0) (r_mov rfl) rfl rfl rfl ?_
      refine o_v (v := .agg #[.int .i64 (3 : Int), .int .i64 (0 : Int), .int .i64 (0 : Int), .bool false, str ([] : Str), .slice none ([] : List Int).length 0, .slice none ([] : List Int).length 0, .int .u64 d0]) (r_build bld_api_Value (vs := [(0, .int .i64 (3 : Int)), (7, .int .u64 d0)]) (cells := [.int .i64 (3 : Int), .int .i64 (0 : Int), .int .i64 (0 : Int), .bool false, str ([] : Str), .slice none ([] : List Int).length 0, .slice none ([] : List Int).length 0, .int .u64 d0]) rfl rfl) rfl rfl rfl ?_
      refine o_v (v := .int .u64 d1) (r_mov rfl) rfl rfl rfl ?_
      refine o_v (v := .agg #[.int .i64 (3 : Int), .int .i64 (0 : Int), .int .i64 (0 : Int), .bool false, str ([] : Str), .slice none ([] : List Int).length 0, .slice none ([] : List Int).length 0, .int .u64 d1]) (r_build bld_api_Value (vs := [(0, .int .i64 (3 : Int)), (7, .int .u64 d1)]) (cells := [.int .i64 (3 : Int), .int .i64 (0 : Int), .int .i64 (0 : Int), .bool false, str ([] : Str), .slice none ([] : List Int).length 0, .slice none ([] : List Int).length 0, .int .u64 d1]) rfl rfl) rfl rfl rfl ?_
      obtain ⟨ha38, h⟩ := h
      obtain ⟨ha39, h⟩ := h
      obtain ⟨x37, hx37, h⟩ := h
      refine o_call cf_value_Join rfl (value_Join_c (⟨(3 : Int), (0 : Int), (0 : Int), false, ([] : Str), ([] : List Int), ([] : List Int), d0⟩ : Val) (kVal_mk (d := (⟨(3 : Int), (0 : Int), (0 : Int), false, ([] : Str), ([] : List Int), ([] : List Int), d0⟩ : Val)) stb_nil stb_nil) (⟨(3 : Int), (0 : Int), (0 : Int), false, ([] : Str), ([] : List Int), ([] : List Int), d1⟩ : Val) (kVal_mk (d := (⟨(3 : Int), (0 : Int), (0 : Int), false, ([] : Str), ([] : List Int), ([] : List Int), d1⟩ : Val)) stb_nil stb_nil) (hL.fr E32) (eq_ev hx37 (valJoin_ev (⟨(3 : Int), (0 : Int), (0 : Int), false, ([] : Str), ([] : List Int), ([] : List Int), d0⟩ : Val) (⟨(3 : Int), (0 : Int), (0 : Int), false, ([] : Str), ([] : List Int), ([] : List Int), d1⟩ : Val) ha38 ha39))) rfl rfl ?_
      rintro _ w37 ⟨F37, cs40, rfl, H41⟩
      have E42 := E32.trans F37
      have G44 := (((G18.trans (Fr.ext F19)).trans (Fr.ext F26)).trans (Fr.ext F31)).trans (Fr.ext F37)
      obtain ⟨A46, c47, A49, c50, rfl, H48, H51⟩ := kVal_open H41
      refine o_v (v := .tuple #[.agg (cVal x37.1 A46 c47 A49 c50).toArray, .int .i64 x37.2]) (r_mov rfl) rfl rfl rfl ?_
      refine o_v (v := .agg (cVal x37.1 A46 c47 A49 c50).toArray) (r_ext rfl rfl) rfl rfl rfl ?_
      refine o_v (v := .int .i64 x37.2) (r_ext rfl rfl) rfl rfl rfl ?_
      refine o_alloc zero_api_Value rfl rfl rfl ?_
      intro b52 w52 e52 F52 B52
      have n52 : w.heap.size ≤ b52 := by rw [e52]; exact E42.size
      have m53 : w.heap.size ≤ b52 := by rw [e52]; exact (G33.trans (Fr.ext F37)).size
      have m54 : w13.heap.size ≤ b52 := by rw [e52]; exact G44.size
      have m55 : w15.heap.size ≤ b52 := by rw [e52]; exact (((G23.trans (Fr.ext F26)).trans (Fr.ext F31)).trans (Fr.ext F37)).size
      have E57 := E42.trans F52
      have G60 := (((G23.trans (Fr.ext F26)).trans (Fr.ext F31)).trans (Fr.ext F37)).trans (Fr.ext F52)
      refine o_store rfl B52 (vs := (cVal x37.1 A46 c47 A49 c50)) rfl sz_api_Value rfl rfl rfl ?_
      intro w62 F62 B62
      have E63 := Ext.st E57 F62 (by simp; omega)
      have G64 : Fr L w w62 := ((G33.trans (Fr.ext F37)).trans (Fr.ext F52)).stp F62 (upc (.inr m53) (fun m hm => by cases hm))
      have G65 : Fr L w13 w62 := (G44.trans (Fr.ext F52)).stp F62 (upc (.inr m54) (fun m hm => by cases hm))
      have G66 : Fr L w15 w62 := G60.stp F62 (upc (.inr m55) (fun m hm => by cases hm))
      have B62' : Blk w62 b52 _ (cVal x37.1 A46 c47 A49 c50) := B62
      refine o_v (v := .int .i64 x37.2) (r_asg rfl) rfl rfl rfl ?_
      refine eo_nil_sq ?_
      refine ec_seq ?_
      refine ec_seq ?_
      refine ec_region ?_
      refine o_v (v := .int .i64 x37.2) (r_mov rfl) rfl rfl rfl ?_
      refine o_v (v := .bool (x37.2 != (0 : Int))) (r_int rfl rfl rfl) rfl rfl rfl ?_
      refine o_v (v := .bool (x37.2 != (0 : Int))) (r_mov rfl) rfl rfl rfl ?_
      refine o_vg (v := .pointer (some ⟨b52, 7, none⟩)) (want_cf (t := 38) rfl rfl) (fun hk => (r_fa fld_api_Value_7 rfl rfl)) rfl rfl ?_
      refine o_vg (v := .int .u64 x37.1.flags) (want_cf (t := 38) rfl rfl) (fun hk => (r_ld one_uint64 (gdT hk) (B62'.cell rfl))) rfl rfl ?_
      refine o_vg (v := .int .u64 d0) (want_cf (t := 38) rfl rfl) (fun hk => (r_mov rfl)) rfl rfl ?_
      refine o_vg (v := .int .u64 d1) (want_cf (t := 38) rfl rfl) (fun hk => (r_mov rfl)) rfl rfl ?_
      refine o_vg (v := .int .u64 (IntKind.u64.wrap ((BitVec.ofInt IntKind.u64.bits d0 ||| BitVec.ofInt IntKind.u64.bits d1).toNat : Int))) (want_cf (t := 38) rfl rfl) (fun hk => (r_int (gdT hk) (gdT hk) rfl)) rfl rfl ?_
      refine o_vg (v := .bool (x37.1.flags != (IntKind.u64.wrap ((BitVec.ofInt IntKind.u64.bits d0 ||| BitVec.ofInt IntKind.u64.bits d1).toNat : Int)))) (want_cf (t := 38) rfl rfl) (fun hk => (r_int (gdT hk) (gdT hk) rfl)) rfl rfl ?_
      refine o_v (v := .bool ((x37.2 != (0 : Int)) || (x37.1.flags != (IntKind.u64.wrap ((BitVec.ofInt IntKind.u64.bits d0 ||| BitVec.ofInt IntKind.u64.bits d1).toNat : Int))))) (r_pickOr rfl rfl (fun hf => (gdT (notT hf)))) rfl rfl rfl ?_
      refine eo_nil_sq ?_
      refine ec_cond rfl (fun hc68 => ?_) (fun hc68 => ?_)
      · replace h := h.1 hc68
        refine ec_seq ?_
        refine ec_region ?_
        refine o_v (v := .bool false) (r_asg rfl) rfl rfl rfl ?_
        refine eo_nil_sq ?_
        refine ec_ret ?_
        refine sq_ret ?_
        subst h
        exact (end1 rfl ⟨_, rfl, E63, rfl⟩)
      · replace h := h.2 hc68
        refine ec_skip ?_
        refine sq_n ?_
        refine ec_seq ?_
        refine ec_region ?_
        refine o_v (v := .agg (cVal d2 A1 c2 A4 c5).toArray) (r_lda agg_api_Value rfl (vs := (cVal d2 A1 c2 A4 c5)) rfl ((S13.fr G65 (fun _ h => h)).now.part (n := 8) rfl)) rfl rfl rfl ?_
        refine o_v (v := .agg (cVal d3 A7 c8 A10 c11).toArray) (r_lda agg_api_Value rfl (vs := (cVal d3 A7 c8 A10 c11)) rfl ((S15.fr G66 (fun _ h => h)).now.part (n := 8) rfl)) rfl rfl rfl ?_
        obtain ⟨ha70, h⟩ := h
        obtain ⟨ha71, h⟩ := h
        obtain ⟨x69, hx69, h⟩ := h
        refine o_call cf_value_Join rfl (value_Join_c d2 (kVal_mk (d := d2) (H3.up G64 (fun _ h => h) (upc (.inr m53) (fun _ h => .inl h))) (H6.up G64 (fun _ h => h) (upc (.inr m53) (fun _ h => .inl h)))) d3 (kVal_mk (d := d3) (H9.up G64 (fun _ h => h) (upc (.inr m53) (fun _ h => .inl h))) (H12.up G64 (fun _ h => h) (upc (.inr m53) (fun _ h => .inl h)))) ((hL.fr E63).cons B62'.lt) (eq_ev hx69 (valJoin_ev d2 d3 ha70 ha71))) rfl rfl ?_
        rintro _ w69 ⟨F69, cs72, rfl, H73⟩
        have E74 := E63.trans F69
        obtain ⟨A80, c81, A83, c84, rfl, H82, H85⟩ := kVal_open H73
        refine o_v (v := .tuple #[.agg (cVal x69.1 A80 c81 A83 c84).toArray, .int .i64 x69.2]) (r_mov rfl) rfl rfl rfl ?_
        refine o_v (v := .agg (cVal x69.1 A80 c81 A83 c84).toArray) (r_ext rfl rfl) rfl rfl rfl ?_
        refine o_v (v := .int .i64 x69.2) (r_ext rfl rfl) rfl rfl rfl ?_
        refine o_alloc zero_api_Value rfl rfl rfl ?_
        intro b86 w86 e86 F86 B86
        have n86 : w.heap.size ≤ b86 := by rw [e86]; exact E74.size
        have q87 : b52 < b86 := by rw [e86]; exact (B62'.ex F69).lt
        have m88 : w.heap.size ≤ b86 := by rw [e86]; exact (G64.trans (Fr.ext F69)).size
        have m89 : w13.heap.size ≤ b86 := by rw [e86]; exact (G65.trans (Fr.ext F69)).size
        have m90 : w15.heap.size ≤ b86 := by rw [e86]; exact (G66.trans (Fr.ext F69)).size
        have m92 : w69.heap.size ≤ b86 := Nat.le_of_eq e86.symm
        have E93 := E74.trans F86
        have G98 : Fr (b52 :: L) w69 w86 := Fr.ext F86
        refine o_store rfl B86 (vs := (cVal x69.1 A80 c81 A83 c84)) rfl sz_api_Value rfl rfl rfl ?_
        intro w100 F100 B100
        have E101 := Ext.st E93 F100 (by simp; omega)
        have G102 : Fr L w w100 := ((G64.trans (Fr.ext F69)).trans (Fr.ext F86)).stp F100 (upc (.inr m88) (fun m hm => by cases hm))
        have G103 : Fr L w13 w100 := ((G65.trans (Fr.ext F69)).trans (Fr.ext F86)).stp F100 (upc (.inr m89) (fun m hm => by cases hm))
        have G104 : Fr L w15 w100 := ((G66.trans (Fr.ext F69)).trans (Fr.ext F86)).stp F100 (upc (.inr m90) (fun m hm => by cases hm))
        have G106 : Fr (b52 :: L) w69 w100 := G98.stp F100 (upc (.inr m92) (fun m hm => by cases hm))
        have B107 := ((B62'.ex F69).ex F86).fr F100 (by simp; omega)
        have B100' : Blk w100 b86 _ (cVal x69.1 A80 c81 A83 c84) := B100
        refine o_v (v := .int .i64 x69.2) (r_asg rfl) rfl rfl rfl ?_
        refine eo_nil_sq ?_
        refine ec_seq ?_
        refine ec_seq ?_
        refine ec_region ?_
        refine o_v (v := .int .i64 x69.2) (r_mov rfl) rfl rfl rfl ?_
        refine o_v (v := .bool (x69.2 != (0 : Int))) (r_int rfl rfl rfl) rfl rfl rfl ?_
        refine o_v (v := .bool (x69.2 != (0 : Int))) (r_mov rfl) rfl rfl rfl ?_
        refine o_vg (v := .pointer (some ⟨b13, 0, none⟩)) (want_cf (t := 54) rfl rfl) (fun hk => (r_fa fld_api_Value_0 rfl rfl)) rfl rfl ?_
        refine o_vg (v := .int .i64 d2.kind) (want_cf (t := 54) rfl rfl) (fun hk => (r_ld one_int (gdT hk) ((S13.fr G103 (fun _ h => h)).now.cell rfl))) rfl rfl ?_
        refine o_vg (v := .bool (d2.kind != (2 : Int))) (want_cf (t := 54) rfl rfl) (fun hk => (r_int (gdT hk) rfl rfl)) rfl rfl ?_
        refine o_v (v := .bool ((x69.2 != (0 : Int)) || (d2.kind != (2 : Int)))) (r_pickOr rfl rfl (fun hf => (gdT (notT hf)))) rfl rfl rfl ?_
        refine eo_nil_sq ?_
        refine ec_cond rfl (fun hc108 => ?_) (fun hc108 => ?_)
        · replace h := h.1 hc108
          refine ec_seq ?_
          refine ec_region ?_
          refine o_v (v := .bool (worksV)) (r_mov rfl) rfl rfl rfl ?_
          refine o_v (v := .bool (worksV)) (r_asg rfl) rfl rfl rfl ?_
          refine eo_nil_sq ?_
          refine ec_ret ?_
          refine sq_ret ?_
          subst h
          exact (end1 rfl ⟨_, rfl, E101, rfl⟩)
        · replace h := h.2 hc108
          refine ec_skip ?_
          refine sq_n ?_
          refine ec_seq ?_
          refine ec_seq ?_
          refine ec_region ?_
          refine o_v (v := .pointer (some ⟨b86, 5, none⟩)) (r_fa fld_api_Value_5 rfl rfl) rfl rfl rfl ?_
          refine o_v (v := .slice A80 x69.1.plus.length c81) (r_ld one_s_int rfl (B100'.cell rfl)) rfl rfl rfl ?_
          refine o_v (v := .int .i64 (x69.1.plus.length : Int)) (r_len_slc un_s_int rfl) rfl rfl rfl ?_
          refine o_v (v := .bool ((x69.1.plus.length : Int) != (8 : Int))) (r_int rfl rfl rfl) rfl rfl rfl ?_
          refine o_v (v := .bool ((x69.1.plus.length : Int) != (8 : Int))) (r_mov rfl) rfl rfl rfl ?_
          refine o_vg (v := .pointer (some ⟨b86, 6, none⟩)) (want_cf (t := 64) rfl rfl) (fun hk => (r_fa fld_api_Value_6 rfl rfl)) rfl rfl ?_
          refine o_vg (v := .slice A83 x69.1.minus.length c84) (want_cf (t := 64) rfl rfl) (fun hk => (r_ld one_s_int (gdT hk) (B100'.cell rfl))) rfl rfl ?_
          refine o_vg (v := .int .i64 (x69.1.minus.length : Int)) (want_cf (t := 64) rfl rfl) (fun hk => (r_len_slc un_s_int (gdT hk))) rfl rfl ?_
          refine o_vg (v := .bool ((x69.1.minus.length : Int) != (8 : Int))) (want_cf (t := 64) rfl rfl) (fun hk => (r_int (gdT hk) rfl rfl)) rfl rfl ?_
          refine o_v (v := .bool (((x69.1.plus.length : Int) != (8 : Int)) || ((x69.1.minus.length : Int) != (8 : Int)))) (r_pickOr rfl rfl (fun hf => (gdT (notT hf)))) rfl rfl rfl ?_
          refine eo_nil_sq ?_
          refine ec_cond rfl (fun hc109 => ?_) (fun hc109 => ?_)
          · replace h := h.1 hc109
            refine ec_seq ?_
            refine ec_region ?_
            refine o_v (v := .bool false) (r_asg rfl) rfl rfl rfl ?_
            refine eo_nil_sq ?_
            refine ec_ret ?_
            refine sq_ret ?_
            subst h
            exact (end1 rfl ⟨_, rfl, E101, rfl⟩)
          · replace h := h.2 hc109
            refine ec_skip ?_
            refine sq_n ?_
            refine ec_seq ?_
            refine ec_seq ?_
            refine ec_region ?_
            refine o_v (v := .int .i64 (0 : Int)) (r_asg rfl) rfl rfl rfl ?_
            refine eo_nil_sq ?_
            refine ec_block ?_
            obtain ⟨x110, hl110, h⟩ := h
            refine ec_loopER 0 (I := (fun (s110 : Int) ρ ds w' => ∃ (ρ' : Env), ρ = envs ρ' [(15, .int .i64 s110), (6, .pointer (some ⟨b13, 0, none⟩)), (7, .pointer (some ⟨b15, 0, none⟩)), (9, .bool (worksV)), (13, .pointer (some ⟨b86, 0, none⟩))] ∧ ds = [] ∧ Fr (b86 :: (b52 :: L)) w100 w' ∧ Ext w w' ∧ Blk w' b52 25 (cVal x37.1 A46 c47 A49 c50) ∧ Blk w' b86 25 (cVal x69.1 A80 c81 A83 c84))) (J := (fun (y' : Bool) ρ ds wz => bodyE Try.prog #[.tmp 8] (Ret fun v w' => Ext w w' ∧ v = .bool y') .ret ρ ds wz)) ?_ hl110 ?_ ?_ ?_
            · intro s110 z110 ρ110 ds110 w110r hI110 hb110
              obtain ⟨ρ110r, rfl, rfl, F110r, E110r, B110rb52, B110rb86⟩ := hI110
              have h := hb110
              unfold law06_ValueFlags_b110 at h
              have G111 : Fr L w w110r := G102.stp F110r (upc (.inr m88) (upc (.inr m53) (fun _ h => .inl h)))
              have G112 : Fr L w13 w110r := G103.stp F110r (upc (.inr m89) (upc (.inr m54) (fun _ h => .inl h)))
              have G113 : Fr L w15 w110r := G104.stp F110r (upc (.inr m90) (upc (.inr m55) (fun _ h => .inl h)))
              have G115 : Fr (b52 :: L) w69 w110r := G106.stp F110r (upc (.inr m92) (upc (.inl (List.Mem.head _)) (fun m hm => Or.inl (List.Mem.tail _ hm))))
              refine ec_seq ?_
              refine ec_seq ?_
              refine ec_region ?_
              refine o_v (v := .int .i64 s110) (r_mov rfl) rfl rfl rfl ?_
              refine o_v (v := .bool (decide (s110 < (8 : Int)))) (r_int rfl rfl rfl) rfl rfl rfl ?_
              refine eo_nil_sq ?_
              refine ec_cond rfl (fun hc116 => ?_) (fun hc116 => ?_)
              · replace h := h.1 hc116
                refine ec_skip ?_
                refine sq_n ?_
                refine ec_seq ?_
                refine ec_block ?_
                refine ec_seq ?_
                rcases Bool.eq_false_or_eq_true ((nth x69.1.plus s110) != (max (nth d2.plus s110) (nth d3.plus s110))) with hc161 | hc161
                · replace h := h.1 hc161
                  obtain ⟨ha187, h⟩ := h
                  obtain ⟨cs188, l190, H189⟩ := Stb.elem (by decide) (H82.up G115 (fun _ h => h) (upc (.inr m92) (upc (.inl (List.Mem.head _)) (fun m hm => Or.inl (List.Mem.tail _ hm))))) s110 ha187.1 ha187.2
                  obtain ⟨rfl, H189'⟩ := kI_open2 H189
                  obtain ⟨ha191, h⟩ := h
                  obtain ⟨cs192, l194, H193⟩ := Stb.elem (by decide) (H3.up G111 (fun _ h => h) (upc (.inr m88) (upc (.inr m53) (fun _ h => .inl h)))) s110 ha191.1 ha191.2
                  obtain ⟨rfl, H193'⟩ := kI_open2 H193
                  obtain ⟨ha195, h⟩ := h
                  obtain ⟨cs196, l198, H197⟩ := Stb.elem (by decide) (H9.up G111 (fun _ h => h) (upc (.inr m88) (upc (.inr m53) (fun _ h => .inl h)))) s110 ha195.1 ha195.2
                  obtain ⟨rfl, H197'⟩ := kI_open2 H197
                  refine ec_any0 (by kernel_rfl) [[], [0], [], [0, 1, 2], [0, 1, 2, 3], [], [5], [], [5, 6, 7], [5, 6, 7, 8], [], [10], [], [10, 11, 12], [10, 11, 12, 13], [5, 6, 7, 8, 9, 10, 11, 12, 13, 14], [0, 1, 2, 3, 4, 5, 6, 7, 8, 9, 10, 11, 12, 13, 14, 15], [0, 1, 2, 3, 4, 5, 6, 7, 8, 9, 10, 11, 12, 13, 14, 15, 16], [0, 1, 2, 3, 4, 5, 6, 7, 8, 9, 10, 11, 12, 13, 14, 15, 16, 17], [0, 1, 2, 3, 4, 5, 6, 7, 8, 9, 10, 11, 12, 13, 14, 15, 16, 17, 18], [0, 1, 2, 3, 4, 5, 6, 7, 8, 9, 10, 11, 12, 13, 14, 15, 16, 17], [0, 1, 2, 3, 4, 5, 6, 7, 8, 9, 10, 11, 12, 13, 14, 15, 16, 17, 18, 19, 20], [0, 1, 2, 3, 4, 5, 6, 7, 8, 9, 10, 11, 12, 13, 14, 15, 16, 17, 18, 19, 20, 21], [0, 1, 2, 3, 4, 5, 6, 7, 8, 9, 10, 11, 12, 13, 14, 15, 16, 17], [0, 1, 2, 3, 4, 5, 6, 7, 8, 9, 10, 11, 12, 13, 14, 15, 16, 17, 23], [0, 1, 2, 3, 4, 5, 6, 7, 8, 9, 10, 11, 12, 13, 14, 15, 16, 17], [0, 1, 2, 3, 4, 5, 6, 7, 8, 9, 10, 11, 12, 13, 14, 15, 16, 17, 23, 24, 25], [0, 1, 2, 3, 4, 5, 6, 7, 8, 9, 10, 11, 12, 13, 14, 15, 16, 17, 23, 24, 25, 26], [0, 1, 2, 3, 4, 5, 6, 7, 8, 9, 10, 11, 12, 13, 14, 15, 16, 17], [0, 1, 2, 3, 4, 5, 6, 7, 8, 9, 10, 11, 12, 13, 14, 15, 16, 17, 28], [0, 1, 2, 3, 4, 5, 6, 7, 8, 9, 10, 11, 12, 13, 14, 15, 16, 17], [0, 1, 2, 3, 4, 5, 6, 7, 8, 9, 10, 11, 12, 13, 14, 15, 16, 17, 28, 29, 30], [0, 1, 2, 3, 4, 5, 6, 7, 8, 9, 10, 11, 12, 13, 14, 15, 16, 17, 28, 29, 30, 31], [0, 1, 2, 3, 4, 5, 6, 7, 8, 9, 10, 11, 12, 13, 14, 15, 16, 17, 23, 24, 25, 26, 27, 28, 29, 30, 31, 32], [0, 1, 2, 3, 4, 5, 6, 7, 8, 9, 10, 11, 12, 13, 14, 15, 16, 17, 18, 19, 20, 21, 22, 23, 24, 25, 26, 27, 28, 29, 30, 31, 32, 33], [0, 1, 2, 3, 4, 5, 6, 7, 8, 9, 10, 11, 12, 13, 14, 15, 16, 17, 18, 19, 20, 21, 22, 23, 24, 25, 26, 27, 28, 29, 30, 31, 32, 33, 34]] [74, 75, 76, 77, 78, 79, 80, 81, 82, 83, 84, 85, 86, 87, 88, 89, 90, 91, 92, 93, 94, 95, 96, 97, 98, 99, 100, 101, 102, 103, 104, 105, 106, 107, 108, 109] [fun v _ => v = (.pointer (some ⟨b86, 5, none⟩) : Value), fun v _ => v = (.slice A80 x69.1.plus.length c81 : Value), fun v _ => v = (.int .i64 s110 : Value), fun v _ => v = (.pointer (some (elemA A80 (kI .i64).n s110.toNat)) : Value), fun v _ => v = (.int .i64 (nth x69.1.plus s110) : Value), fun v _ => v = (.pointer (some ⟨b13, 5, none⟩) : Value), fun v _ => v = (.slice A1 d2.plus.length c2 : Value), fun v _ => v = (.int .i64 s110 : Value), fun v _ => v = (.pointer (some (elemA A1 (kI .i64).n s110.toNat)) : Value), fun v _ => v = (.int .i64 (nth d2.plus s110) : Value), fun v _ => v = (.pointer (some ⟨b15, 5, none⟩) : Value), fun v _ => v = (.slice A7 d3.plus.length c8 : Value), fun v _ => v = (.int .i64 s110 : Value), fun v _ => v = (.pointer (some (elemA A7 (kI .i64).n s110.toNat)) : Value), fun v _ => v = (.int .i64 (nth d3.plus s110) : Value), fun v _ => v = (.int .i64 (max (nth d2.plus s110) (nth d3.plus s110)) : Value), fun v _ => v = (.bool ((nth x69.1.plus s110) != (max (nth d2.plus s110) (nth d3.plus s110))) : Value), fun v _ => v = (.bool ((nth x69.1.plus s110) != (max (nth d2.plus s110) (nth d3.plus s110))) : Value), fun v _ => v = ((undef : Value) : Value), fun v _ => v = ((undef : Value) : Value), fun v _ => v = ((undef : Value) : Value), fun v _ => v = ((undef : Value) : Value), fun v _ => v = ((undef : Value) : Value), fun v _ => v = ((undef : Value) : Value), fun v _ => v = ((undef : Value) : Value), fun v _ => v = ((undef : Value) : Value), fun v _ => v = ((undef : Value) : Value), fun v _ => v = ((undef : Value) : Value), fun v _ => v = ((undef : Value) : Value), fun v _ => v = ((undef : Value) : Value), fun v _ => v = ((undef : Value) : Value), fun v _ => v = ((undef : Value) : Value), fun v _ => v = ((undef : Value) : Value), fun v _ => v = ((undef : Value) : Value), fun v _ => v = ((undef : Value) : Value), fun v _ => v = (.bool true : Value)] (by kernel_rfl) ⟨fun _ _ _ _ _ h => h, fun _ _ _ _ _ h => h, fun _ _ _ _ _ h => h, fun _ _ _ _ _ h => h, fun _ _ _ _ _ h => h, fun _ _ _ _ _ h => h, fun _ _ _ _ _ h => h, fun _ _ _ _ _ h => h, fun _ _ _ _ _ h => h, fun _ _ _ _ _ h => h, fun _ _ _ _ _ h => h, fun _ _ _ _ _ h => h, fun _ _ _ _ _ h => h, fun _ _ _ _ _ h => h, fun _ _ _ _ _ h => h, fun _ _ _ _ _ h => h, fun _ _ _ _ _ h => h, fun _ _ _ _ _ h => h, fun _ _ _ _ _ h => h, fun _ _ _ _ _ h => h, fun _ _ _ _ _ h => h, fun _ _ _ _ _ h => h, fun _ _ _ _ _ h => h, fun _ _ _ _ _ h => h, fun _ _ _ _ _ h => h, fun _ _ _ _ _ h => h, fun _ _ _ _ _ h => h, fun _ _ _ _ _ h => h, fun _ _ _ _ _ h => h, fun _ _ _ _ _ h => h, fun _ _ _ _ _ h => h, fun _ _ _ _ _ h => h, fun _ _ _ _ _ h => h, fun _ _ _ _ _ h => h, fun _ _ _ _ _ h => h, fun _ _ _ _ _ h => h, trivial⟩ ?_ ?_
                  · refine ⟨?_, ?_, ?_, ?_, ?_, ?_, ?_, ?_, ?_, ?_, ?_, ?_, ?_, ?_, ?_, ?_, ?_, ?_, ?_, ?_, ?_, ?_, ?_, ?_, ?_, ?_, ?_, ?_, ?_, ?_, ?_, ?_, ?_, ?_, ?_, ?_, trivial⟩
                    · intro ρ w186o F186o hS hρ
                      have q13 : ρ 13 = .pointer (some ⟨b86, 0, none⟩) := hρ 13 (by kernel_rfl)
                      exact o_v (r_fa fld_api_Value_5 rfl q13) rfl rfl rfl (eo_nil ⟨rfl, rfl, _, rfl, Fr.refl _ _, rfl⟩)
                    · intro ρ w186o F186o hS hρ
                      have q74 : ρ 74 = .pointer (some ⟨b86, 5, none⟩) := hS 0 (by decide) 74 rfl
                      exact o_v (r_ld one_s_int q74 ((B110rb86.ex F186o).cell rfl)) rfl rfl rfl (eo_nil ⟨rfl, rfl, _, rfl, Fr.refl _ _, rfl⟩)
                    · intro ρ w186o F186o hS hρ
                      have q15 : ρ 15 = .int .i64 s110 := hρ 15 (by kernel_rfl)
                      exact o_v (r_mov q15) rfl rfl rfl (eo_nil ⟨rfl, rfl, _, rfl, Fr.refl _ _, rfl⟩)
                    · intro ρ w186o F186o hS hρ
                      have q75 : ρ 75 = .slice A80 x69.1.plus.length c81 := hS 1 (by decide) 75 rfl
                      have q76 : ρ 76 = .int .i64 s110 := hS 2 (by decide) 76 rfl
                      exact o_v (r_ia slc_s_int q75 q76 ((H82.fr (G115.trans (Fr.ext F186o)) (fun _ h => h)).now.2 _ (lt_toNat ha187.1 ha187.2)).1 ha187.1 ha187.2) rfl rfl rfl (eo_nil ⟨rfl, rfl, _, rfl, Fr.refl _ _, rfl⟩)
                    · intro ρ w186o F186o hS hρ
                      have G226 : Fr (b86 :: (b52 :: L)) w110r w186o := Fr.ext F186o
                      have q77 : ρ 77 = .pointer (some (elemA A80 (kI .i64).n s110.toNat)) := hS 3 (by decide) 77 rfl
                      exact o_v (r_ld' one_int q77 (elemA_spot _ _ _) ((H189'.fr G226 (fun _ h => h)).now.1.at0 (elemA_spot _ _ _))) rfl rfl rfl (eo_nil ⟨rfl, rfl, _, rfl, Fr.refl _ _, rfl⟩)
                    · intro ρ w186o F186o hS hρ
                      have q6 : ρ 6 = .pointer (some ⟨b13, 0, none⟩) := hρ 6 (by kernel_rfl)
                      exact o_v (r_fa fld_api_Value_5 rfl q6) rfl rfl rfl (eo_nil ⟨rfl, rfl, _, rfl, Fr.refl _ _, rfl⟩)
                    · intro ρ w186o F186o hS hρ
                      have q79 : ρ 79 = .pointer (some ⟨b13, 5, none⟩) := hS 5 (by decide) 79 rfl
                      exact o_v (r_ld one_s_int q79 ((S13.fr (G112.trans (Fr.ext F186o)) (fun _ h => h)).now.cell rfl)) rfl rfl rfl (eo_nil ⟨rfl, rfl, _, rfl, Fr.refl _ _, rfl⟩)
                    · intro ρ w186o F186o hS hρ
                      have q15 : ρ 15 = .int .i64 s110 := hρ 15 (by kernel_rfl)
                      exact o_v (r_mov q15) rfl rfl rfl (eo_nil ⟨rfl, rfl, _, rfl, Fr.refl _ _, rfl⟩)
                    · intro ρ w186o F186o hS hρ
                      have q80 : ρ 80 = .slice A1 d2.plus.length c2 := hS 6 (by decide) 80 rfl
                      have q81 : ρ 81 = .int .i64 s110 := hS 7 (by decide) 81 rfl
                      exact o_v (r_ia slc_s_int q80 q81 ((H3.fr (G111.trans (Fr.ext F186o)) (fun _ h => h)).now.2 _ (lt_toNat ha191.1 ha191.2)).1 ha191.1 ha191.2) rfl rfl rfl (eo_nil ⟨rfl, rfl, _, rfl, Fr.refl _ _, rfl⟩)
                    · intro ρ w186o F186o hS hρ
                      have G256 : Fr (b86 :: (b52 :: L)) w110r w186o := Fr.ext F186o
                      have q82 : ρ 82 = .pointer (some (elemA A1 (kI .i64).n s110.toNat)) := hS 8 (by decide) 82 rfl
                      exact o_v (r_ld' one_int q82 (elemA_spot _ _ _) ((H193'.fr G256 (fun _ h => h)).now.1.at0 (elemA_spot _ _ _))) rfl rfl rfl (eo_nil ⟨rfl, rfl, _, rfl, Fr.refl _ _, rfl⟩)
                    · intro ρ w186o F186o hS hρ
                      have q7 : ρ 7 = .pointer (some ⟨b15, 0, none⟩) := hρ 7 (by kernel_rfl)
                      exact o_v (r_fa fld_api_Value_5 rfl q7) rfl rfl rfl (eo_nil ⟨rfl, rfl, _, rfl, Fr.refl _ _, rfl⟩)
                    · intro ρ w186o F186o hS hρ
                      have q84 : ρ 84 = .pointer (some ⟨b15, 5, none⟩) := hS 10 (by decide) 84 rfl
                      exact o_v (r_ld one_s_int q84 ((S15.fr (G113.trans (Fr.ext F186o)) (fun _ h => h)).now.cell rfl)) rfl rfl rfl (eo_nil ⟨rfl, rfl, _, rfl, Fr.refl _ _, rfl⟩)
                    · intro ρ w186o F186o hS hρ
                      have q15 : ρ 15 = .int .i64 s110 := hρ 15 (by kernel_rfl)
                      exact o_v (r_mov q15) rfl rfl rfl (eo_nil ⟨rfl, rfl, _, rfl, Fr.refl _ _, rfl⟩)
                    · intro ρ w186o F186o hS hρ
                      have q85 : ρ 85 = .slice A7 d3.plus.length c8 := hS 11 (by decide) 85 rfl
                      have q86 : ρ 86 = .int .i64 s110 := hS 12 (by decide) 86 rfl
                      exact o_v (r_ia slc_s_int q85 q86 ((H9.fr (G111.trans (Fr.ext F186o)) (fun _ h => h)).now.2 _ (lt_toNat ha195.1 ha195.2)).1 ha195.1 ha195.2) rfl rfl rfl (eo_nil ⟨rfl, rfl, _, rfl, Fr.refl _ _, rfl⟩)
                    · intro ρ w186o F186o hS hρ
                      have G286 : Fr (b86 :: (b52 :: L)) w110r w186o := Fr.ext F186o
                      have q87 : ρ 87 = .pointer (some (elemA A7 (kI .i64).n s110.toNat)) := hS 13 (by decide) 87 rfl
                      exact o_v (r_ld' one_int q87 (elemA_spot _ _ _) ((H197'.fr G286 (fun _ h => h)).now.1.at0 (elemA_spot _ _ _))) rfl rfl rfl (eo_nil ⟨rfl, rfl, _, rfl, Fr.refl _ _, rfl⟩)
                    · intro ρ w186o F186o hS hρ
                      have q83 : ρ 83 = .int .i64 (nth d2.plus s110) := hS 9 (by decide) 83 rfl
                      have q88 : ρ 88 = .int .i64 (nth d3.plus s110) := hS 14 (by decide) 88 rfl
                      exact o_v (r_max q83 q88) rfl rfl rfl (eo_nil ⟨rfl, rfl, _, rfl, Fr.refl _ _, rfl⟩)
                    · intro ρ w186o F186o hS hρ
                      have q78 : ρ 78 = .int .i64 (nth x69.1.plus s110) := hS 4 (by decide) 78 rfl
                      have q89 : ρ 89 = .int .i64 (max (nth d2.plus s110) (nth d3.plus s110)) := hS 15 (by decide) 89 rfl
                      exact o_v (r_int q78 q89 rfl) rfl rfl rfl (eo_nil ⟨rfl, rfl, _, rfl, Fr.refl _ _, rfl⟩)
                    · intro ρ w186o F186o hS hρ
                      have q90 : ρ 90 = .bool ((nth x69.1.plus s110) != (max (nth d2.plus s110) (nth d3.plus s110))) := hS 16 (by decide) 90 rfl
                      exact o_v (r_mov q90) rfl rfl rfl (eo_nil ⟨rfl, rfl, _, rfl, Fr.refl _ _, rfl⟩)
                    · intro ρ w186o F186o hS hρ
                      have q13 : ρ 13 = .pointer (some ⟨b86, 0, none⟩) := hρ 13 (by kernel_rfl)
                      have q91 : ρ 91 = .bool ((nth x69.1.plus s110) != (max (nth d2.plus s110) (nth d3.plus s110))) := hS 17 (by decide) 91 rfl
                      exact o_no (want_f (t := 91) rfl q91 hc161) rfl (eo_nil ⟨rfl, rfl, undef, rfl, Fr.refl _ _, rfl⟩)
                    · intro ρ w186o F186o hS hρ
                      have q91 : ρ 91 = .bool ((nth x69.1.plus s110) != (max (nth d2.plus s110) (nth d3.plus s110))) := hS 17 (by decide) 91 rfl
                      have q92 : ρ 92 = (undef : Value) := hS 18 (by decide) 92 rfl
                      exact o_no (want_f (t := 91) rfl q91 hc161) rfl (eo_nil ⟨rfl, rfl, undef, rfl, Fr.refl _ _, rfl⟩)
                    · intro ρ w186o F186o hS hρ
                      have q15 : ρ 15 = .int .i64 s110 := hρ 15 (by kernel_rfl)
                      have q91 : ρ 91 = .bool ((nth x69.1.plus s110) != (max (nth d2.plus s110) (nth d3.plus s110))) := hS 17 (by decide) 91 rfl
                      exact o_no (want_f (t := 91) rfl q91 hc161) rfl (eo_nil ⟨rfl, rfl, undef, rfl, Fr.refl _ _, rfl⟩)
                    · intro ρ w186o F186o hS hρ
                      have q91 : ρ 91 = .bool ((nth x69.1.plus s110) != (max (nth d2.plus s110) (nth d3.plus s110))) := hS 17 (by decide) 91 rfl
                      have q93 : ρ 93 = (undef : Value) := hS 19 (by decide) 93 rfl
                      have q94 : ρ 94 = (undef : Value) := hS 20 (by decide) 94 rfl
                      exact o_no (want_f (t := 91) rfl q91 hc161) rfl (eo_nil ⟨rfl, rfl, undef, rfl, Fr.refl _ _, rfl⟩)
                    · intro ρ w186o F186o hS hρ
                      have q91 : ρ 91 = .bool ((nth x69.1.plus s110) != (max (nth d2.plus s110) (nth d3.plus s110))) := hS 17 (by decide) 91 rfl
                      have q95 : ρ 95 = (undef : Value) := hS 21 (by decide) 95 rfl
                      exact o_no (want_f (t := 91) rfl q91 hc161) rfl (eo_nil ⟨rfl, rfl, undef, rfl, Fr.refl _ _, rfl⟩)
                    · intro ρ w186o F186o hS hρ
                      have q6 : ρ 6 = .pointer (some ⟨b13, 0, none⟩) := hρ 6 (by kernel_rfl)
                      have q91 : ρ 91 = .bool ((nth x69.1.plus s110) != (max (nth d2.plus s110) (nth d3.plus s110))) := hS 17 (by decide) 91 rfl
                      exact o_no (want_f (t := 91) rfl q91 hc161) rfl (eo_nil ⟨rfl, rfl, undef, rfl, Fr.refl _ _, rfl⟩)
                    · intro ρ w186o F186o hS hρ
                      have q91 : ρ 91 = .bool ((nth x69.1.plus s110) != (max (nth d2.plus s110) (nth d3.plus s110))) := hS 17 (by decide) 91 rfl
                      have q97 : ρ 97 = (undef : Value) := hS 23 (by decide) 97 rfl
                      exact o_no (want_f (t := 91) rfl q91 hc161) rfl (eo_nil ⟨rfl, rfl, undef, rfl, Fr.refl _ _, rfl⟩)
                    · intro ρ w186o F186o hS hρ
                      have q15 : ρ 15 = .int .i64 s110 := hρ 15 (by kernel_rfl)
                      have q91 : ρ 91 = .bool ((nth x69.1.plus s110) != (max (nth d2.plus s110) (nth d3.plus s110))) := hS 17 (by decide) 91 rfl
                      exact o_no (want_f (t := 91) rfl q91 hc161) rfl (eo_nil ⟨rfl, rfl, undef, rfl, Fr.refl _ _, rfl⟩)
                    · intro ρ w186o F186o hS hρ
                      have q91 : ρ 91 = .bool ((nth x69.1.plus s110) != (max (nth d2.plus s110) (nth d3.plus s110))) := hS 17 (by decide) 91 rfl
                      have q98 : ρ 98 = (undef : Value) := hS 24 (by decide) 98 rfl
                      have q99 : ρ 99 = (undef : Value) := hS 25 (by decide) 99 rfl
                      exact o_no (want_f (t := 91) rfl q91 hc161) rfl (eo_nil ⟨rfl, rfl, undef, rfl, Fr.refl _ _, rfl⟩)
                    · intro ρ w186o F186o hS hρ
                      have q91 : ρ 91 = .bool ((nth x69.1.plus s110) != (max (nth d2.plus s110) (nth d3.plus s110))) := hS 17 (by decide) 91 rfl
                      have q100 : ρ 100 = (undef : Value) := hS 26 (by decide) 100 rfl
                      exact o_no (want_f (t := 91) rfl q91 hc161) rfl (eo_nil ⟨rfl, rfl, undef, rfl, Fr.refl _ _, rfl⟩)
                    · intro ρ w186o F186o hS hρ
                      have q7 : ρ 7 = .pointer (some ⟨b15, 0, none⟩) := hρ 7 (by kernel_rfl)
                      have q91 : ρ 91 = .bool ((nth x69.1.plus s110) != (max (nth d2.plus s110) (nth d3.plus s110))) := hS 17 (by decide) 91 rfl
                      exact o_no (want_f (t := 91) rfl q91 hc161) rfl (eo_nil ⟨rfl, rfl, undef, rfl, Fr.refl _ _, rfl⟩)
                    · intro ρ w186o F186o hS hρ
                      have q91 : ρ 91 = .bool ((nth x69.1.plus s110) != (max (nth d2.plus s110) (nth d3.plus s110))) := hS 17 (by decide) 91 rfl
                      have q102 : ρ 102 = (undef : Value) := hS 28 (by decide) 102 rfl
                      exact o_no (want_f (t := 91) rfl q91 hc161) rfl (eo_nil ⟨rfl, rfl, undef, rfl, Fr.refl _ _, rfl⟩)
                    · intro ρ w186o F186o hS hρ
                      have q15 : ρ 15 = .int .i64 s110 := hρ 15 (by kernel_rfl)
                      have q91 : ρ 91 = .bool ((nth x69.1.plus s110) != (max (nth d2.plus s110) (nth d3.plus s110))) := hS 17 (by decide) 91 rfl
                      exact o_no (want_f (t := 91) rfl q91 hc161) rfl (eo_nil ⟨rfl, rfl, undef, rfl, Fr.refl _ _, rfl⟩)
                    · intro ρ w186o F186o hS hρ
                      have q91 : ρ 91 = .bool ((nth x69.1.plus s110) != (max (nth d2.plus s110) (nth d3.plus s110))) := hS 17 (by decide) 91 rfl
                      have q103 : ρ 103 = (undef : Value) := hS 29 (by decide) 103 rfl
                      have q104 : ρ 104 = (undef : Value) := hS 30 (by decide) 104 rfl
                      exact o_no (want_f (t := 91) rfl q91 hc161) rfl (eo_nil ⟨rfl, rfl, undef, rfl, Fr.refl _ _, rfl⟩)
                    · intro ρ w186o F186o hS hρ
                      have q91 : ρ 91 = .bool ((nth x69.1.plus s110) != (max (nth d2.plus s110) (nth d3.plus s110))) := hS 17 (by decide) 91 rfl
                      have q105 : ρ 105 = (undef : Value) := hS 31 (by decide) 105 rfl
                      exact o_no (want_f (t := 91) rfl q91 hc161) rfl (eo_nil ⟨rfl, rfl, undef, rfl, Fr.refl _ _, rfl⟩)
                    · intro ρ w186o F186o hS hρ
                      have q91 : ρ 91 = .bool ((nth x69.1.plus s110) != (max (nth d2.plus s110) (nth d3.plus s110))) := hS 17 (by decide) 91 rfl
                      have q101 : ρ 101 = (undef : Value) := hS 27 (by decide) 101 rfl
                      have q106 : ρ 106 = (undef : Value) := hS 32 (by decide) 106 rfl
                      exact o_no (want_f (t := 91) rfl q91 hc161) rfl (eo_nil ⟨rfl, rfl, undef, rfl, Fr.refl _ _, rfl⟩)
                    · intro ρ w186o F186o hS hρ
                      have q91 : ρ 91 = .bool ((nth x69.1.plus s110) != (max (nth d2.plus s110) (nth d3.plus s110))) := hS 17 (by decide) 91 rfl
                      have q96 : ρ 96 = (undef : Value) := hS 22 (by decide) 96 rfl
                      have q107 : ρ 107 = (undef : Value) := hS 33 (by decide) 107 rfl
                      exact o_no (want_f (t := 91) rfl q91 hc161) rfl (eo_nil ⟨rfl, rfl, undef, rfl, Fr.refl _ _, rfl⟩)
                    · intro ρ w186o F186o hS hρ
                      have q91 : ρ 91 = .bool ((nth x69.1.plus s110) != (max (nth d2.plus s110) (nth d3.plus s110))) := hS 17 (by decide) 91 rfl
                      have q108 : ρ 108 = (undef : Value) := hS 34 (by decide) 108 rfl
                      exact o_v (r_pickT q91 hc161 rfl) rfl rfl rfl (eo_nil ⟨rfl, rfl, _, rfl, Fr.refl _ _, rfl⟩)
                  · intro ρ w186 F186 hS hρ
                    have q109 : ρ 109 = .bool true := hS 35 109 rfl
                    obtain ⟨ρ', rfl⟩ : ∃ ρ', ρ = envs (ovr [74, 75, 76, 77, 78, 79, 80, 81, 82, 83, 84, 85, 86, 87, 88, 89, 90, 91, 92, 93, 94, 95, 96, 97, 98, 99, 100, 101, 102, 103, 104, 105, 106, 107, 108, 109] ρ' _) [(109, .bool true)] := ⟨ρ, ovr_self hρ ⟨q109, trivial⟩⟩
                    have E289 := E110r.trans F186
                    refine sq_n ?_
                    refine ec_condT rfl rfl ?_
                    refine ec_seq ?_
                    refine ec_region ?_
                    refine o_v (v := .bool false) (r_asg rfl) rfl rfl rfl ?_
                    refine eo_nil_sq ?_
                    refine ec_ret ?_
                    refine blk_ret ?_
                    refine sq_ret ?_
                    subst h
                    exact lqR_r (end1 rfl ⟨_, rfl, E289, rfl⟩)
                · replace h := h.2 hc161
                  obtain ⟨ha348, h⟩ := h
                  obtain ⟨cs349, l351, H350⟩ := Stb.elem (by decide) (H82.up G115 (fun _ h => h) (upc (.inr m92) (upc (.inl (List.Mem.head _)) (fun m hm => Or.inl (List.Mem.tail _ hm))))) s110 ha348.1 ha348.2
                  obtain ⟨rfl, H350'⟩ := kI_open2 H350
                  obtain ⟨ha352, h⟩ := h
                  obtain ⟨cs353, l355, H354⟩ := Stb.elem (by decide) (H3.up G111 (fun _ h => h) (upc (.inr m88) (upc (.inr m53) (fun _ h => .inl h)))) s110 ha352.1 ha352.2
                  obtain ⟨rfl, H354'⟩ := kI_open2 H354
                  obtain ⟨ha356, h⟩ := h
                  obtain ⟨cs357, l359, H358⟩ := Stb.elem (by decide) (H9.up G111 (fun _ h => h) (upc (.inr m88) (upc (.inr m53) (fun _ h => .inl h)))) s110 ha356.1 ha356.2
                  obtain ⟨rfl, H358'⟩ := kI_open2 H358
                  obtain ⟨ha360, h⟩ := h
                  obtain ⟨cs361, l363, H362⟩ := Stb.elem (by decide) (H85.up G115 (fun _ h => h) (upc (.inr m92) (upc (.inl (List.Mem.head _)) (fun m hm => Or.inl (List.Mem.tail _ hm))))) s110 ha360.1 ha360.2
                  obtain ⟨rfl, H362'⟩ := kI_open2 H362
                  obtain ⟨ha364, h⟩ := h
                  obtain ⟨cs365, l367, H366⟩ := Stb.elem (by decide) (H6.up G111 (fun _ h => h) (upc (.inr m88) (upc (.inr m53) (fun _ h => .inl h)))) s110 ha364.1 ha364.2
                  obtain ⟨rfl, H366'⟩ := kI_open2 H366
                  obtain ⟨ha368, h⟩ := h
                  obtain ⟨cs369, l371, H370⟩ := Stb.elem (by decide) (H12.up G111 (fun _ h => h) (upc (.inr m88) (upc (.inr m53) (fun _ h => .inl h)))) s110 ha368.1 ha368.2
                  obtain ⟨rfl, H370'⟩ := kI_open2 H370
                  refine ec_any0 (by kernel_rfl) [[], [0], [], [0, 1, 2], [0, 1, 2, 3], [], [5], [], [5, 6, 7], [5, 6, 7, 8], [], [10], [], [10, 11, 12], [10, 11, 12, 13], [5, 6, 7, 8, 9, 10, 11, 12, 13, 14], [0, 1, 2, 3, 4, 5, 6, 7, 8, 9, 10, 11, 12, 13, 14, 15], [0, 1, 2, 3, 4, 5, 6, 7, 8, 9, 10, 11, 12, 13, 14, 15, 16], [0, 1, 2, 3, 4, 5, 6, 7, 8, 9, 10, 11, 12, 13, 14, 15, 16, 17], [0, 1, 2, 3, 4, 5, 6, 7, 8, 9, 10, 11, 12, 13, 14, 15, 16, 17, 18], [0, 1, 2, 3, 4, 5, 6, 7, 8, 9, 10, 11, 12, 13, 14, 15, 16, 17], [0, 1, 2, 3, 4, 5, 6, 7, 8, 9, 10, 11, 12, 13, 14, 15, 16, 17, 18, 19, 20], [0, 1, 2, 3, 4, 5, 6, 7, 8, 9, 10, 11, 12, 13, 14, 15, 16, 17, 18, 19, 20, 21], [0, 1, 2, 3, 4, 5, 6, 7, 8, 9, 10, 11, 12, 13, 14, 15, 16, 17], [0, 1, 2, 3, 4, 5, 6, 7, 8, 9, 10, 11, 12, 13, 14, 15, 16, 17, 23], [0, 1, 2, 3, 4, 5, 6, 7, 8, 9, 10, 11, 12, 13, 14, 15, 16, 17], [0, 1, 2, 3, 4, 5, 6, 7, 8, 9, 10, 11, 12, 13, 14, 15, 16, 17, 23, 24, 25], [0, 1, 2, 3, 4, 5, 6, 7, 8, 9, 10, 11, 12, 13, 14, 15, 16, 17, 23, 24, 25, 26], [0, 1, 2, 3, 4, 5, 6, 7, 8, 9, 10, 11, 12, 13, 14, 15, 16, 17], [0, 1, 2, 3, 4, 5, 6, 7, 8, 9, 10, 11, 12, 13, 14, 15, 16, 17, 28], [0, 1, 2, 3, 4, 5, 6, 7, 8, 9, 10, 11, 12, 13, 14, 15, 16, 17], [0, 1, 2, 3, 4, 5, 6, 7, 8, 9, 10, 11, 12, 13, 14, 15, 16, 17, 28, 29, 30], [0, 1, 2, 3, 4, 5, 6, 7, 8, 9, 10, 11, 12, 13, 14, 15, 16, 17, 28, 29, 30, 31], [0, 1, 2, 3, 4, 5, 6, 7, 8, 9, 10, 11, 12, 13, 14, 15, 16, 17, 23, 24, 25, 26, 27, 28, 29, 30, 31, 32], [0, 1, 2, 3, 4, 5, 6, 7, 8, 9, 10, 11, 12, 13, 14, 15, 16, 17, 18, 19, 20, 21, 22, 23, 24, 25, 26, 27, 28, 29, 30, 31, 32, 33], [0, 1, 2, 3, 4, 5, 6, 7, 8, 9, 10, 11, 12, 13, 14, 15, 16, 17, 18, 19, 20, 21, 22, 23, 24, 25, 26, 27, 28, 29, 30, 31, 32, 33, 34]] [74, 75, 76, 77, 78, 79, 80, 81, 82, 83, 84, 85, 86, 87, 88, 89, 90, 91, 92, 93, 94, 95, 96, 97, 98, 99, 100, 101, 102, 103, 104, 105, 106, 107, 108, 109] [fun v _ => v = (.pointer (some ⟨b86, 5, none⟩) : Value), fun v _ => v = (.slice A80 x69.1.plus.length c81 : Value), fun v _ => v = (.int .i64 s110 : Value), fun v _ => v = (.pointer (some (elemA A80 (kI .i64).n s110.toNat)) : Value), fun v _ => v = (.int .i64 (nth x69.1.plus s110) : Value), fun v _ => v = (.pointer (some ⟨b13, 5, none⟩) : Value), fun v _ => v = (.slice A1 d2.plus.length c2 : Value), fun v _ => v = (.int .i64 s110 : Value), fun v _ => v = (.pointer (some (elemA A1 (kI .i64).n s110.toNat)) : Value), fun v _ => v = (.int .i64 (nth d2.plus s110) : Value), fun v _ => v = (.pointer (some ⟨b15, 5, none⟩) : Value), fun v _ => v = (.slice A7 d3.plus.length c8 : Value), fun v _ => v = (.int .i64 s110 : Value), fun v _ => v = (.pointer (some (elemA A7 (kI .i64).n s110.toNat)) : Value), fun v _ => v = (.int .i64 (nth d3.plus s110) : Value), fun v _ => v = (.int .i64 (max (nth d2.plus s110) (nth d3.plus s110)) : Value), fun v _ => v = (.bool ((nth x69.1.plus s110) != (max (nth d2.plus s110) (nth d3.plus s110))) : Value), fun v _ => v = (.bool ((nth x69.1.plus s110) != (max (nth d2.plus s110) (nth d3.plus s110))) : Value), fun v _ => v = (.pointer (some ⟨b86, 6, none⟩) : Value), fun v _ => v = (.slice A83 x69.1.minus.length c84 : Value), fun v _ => v = (.int .i64 s110 : Value), fun v _ => v = (.pointer (some (elemA A83 (kI .i64).n s110.toNat)) : Value), fun v _ => v = (.int .i64 (nth x69.1.minus s110) : Value), fun v _ => v = (.pointer (some ⟨b13, 6, none⟩) : Value), fun v _ => v = (.slice A4 d2.minus.length c5 : Value), fun v _ => v = (.int .i64 s110 : Value), fun v _ => v = (.pointer (some (elemA A4 (kI .i64).n s110.toNat)) : Value), fun v _ => v = (.int .i64 (nth d2.minus s110) : Value), fun v _ => v = (.pointer (some ⟨b15, 6, none⟩) : Value), fun v _ => v = (.slice A10 d3.minus.length c11 : Value), fun v _ => v = (.int .i64 s110 : Value), fun v _ => v = (.pointer (some (elemA A10 (kI .i64).n s110.toNat)) : Value), fun v _ => v = (.int .i64 (nth d3.minus s110) : Value), fun v _ => v = (.int .i64 (max (nth d2.minus s110) (nth d3.minus s110)) : Value), fun v _ => v = (.bool ((nth x69.1.minus s110) != (max (nth d2.minus s110) (nth d3.minus s110))) : Value), fun v _ => v = (.bool ((nth x69.1.minus s110) != (max (nth d2.minus s110) (nth d3.minus s110))) : Value)] (by kernel_rfl) ⟨fun _ _ _ _ _ h => h, fun _ _ _ _ _ h => h, fun _ _ _ _ _ h => h, fun _ _ _ _ _ h => h, fun _ _ _ _ _ h => h, fun _ _ _ _ _ h => h, fun _ _ _ _ _ h => h, fun _ _ _ _ _ h => h, fun _ _ _ _ _ h => h, fun _ _ _ _ _ h => h, fun _ _ _ _ _ h => h, fun _ _ _ _ _ h => h, fun _ _ _ _ _ h => h, fun _ _ _ _ _ h => h, fun _ _ _ _ _ h => h, fun _ _ _ _ _ h => h, fun _ _ _ _ _ h => h, fun _ _ _ _ _ h => h, fun _ _ _ _ _ h => h, fun _ _ _ _ _ h => h, fun _ _ _ _ _ h => h, fun _ _ _ _ _ h => h, fun _ _ _ _ _ h => h, fun _ _ _ _ _ h => h, fun _ _ _ _ _ h => h, fun _ _ _ _ _ h => h, fun _ _ _ _ _ h => h, fun _ _ _ _ _ h => h, fun _ _ _ _ _ h => h, fun _ _ _ _ _ h => h, fun _ _ _ _ _ h => h, fun _ _ _ _ _ h => h, fun _ _ _ _ _ h => h, fun _ _ _ _ _ h => h, fun _ _ _ _ _ h => h, fun _ _ _ _ _ h => h, trivial⟩ ?_ ?_
                  · refine ⟨?_, ?_, ?_, ?_, ?_, ?_, ?_, ?_, ?_, ?_, ?_, ?_, ?_, ?_, ?_, ?_, ?_, ?_, ?_, ?_, ?_, ?_, ?_, ?_, ?_, ?_, ?_, ?_, ?_, ?_, ?_, ?_, ?_, ?_, ?_, ?_, trivial⟩
                    · intro ρ w347o F347o hS hρ
                      have q13 : ρ 13 = .pointer (some ⟨b86, 0, none⟩) := hρ 13 (by kernel_rfl)
                      exact o_v (r_fa fld_api_Value_5 rfl q13) rfl rfl rfl (eo_nil ⟨rfl, rfl, _, rfl, Fr.refl _ _, rfl⟩)
                    · intro ρ w347o F347o hS hρ
                      have q74 : ρ 74 = .pointer (some ⟨b86, 5, none⟩) := hS 0 (by decide) 74 rfl
                      exact o_v (r_ld one_s_int q74 ((B110rb86.ex F347o).cell rfl)) rfl rfl rfl (eo_nil ⟨rfl, rfl, _, rfl, Fr.refl _ _, rfl⟩)
                    · intro ρ w347o F347o hS hρ
                      have q15 : ρ 15 = .int .i64 s110 := hρ 15 (by kernel_rfl)
                      exact o_v (r_mov q15) rfl rfl rfl (eo_nil ⟨rfl, rfl, _, rfl, Fr.refl _ _, rfl⟩)
                    · intro ρ w347o F347o hS hρ
                      have q75 : ρ 75 = .slice A80 x69.1.plus.length c81 := hS 1 (by decide) 75 rfl
                      have q76 : ρ 76 = .int .i64 s110 := hS 2 (by decide) 76 rfl
                      exact o_v (r_ia slc_s_int q75 q76 ((H82.fr (G115.trans (Fr.ext F347o)) (fun _ h => h)).now.2 _ (lt_toNat ha348.1 ha348.2)).1 ha348.1 ha348.2) rfl rfl rfl (eo_nil ⟨rfl, rfl, _, rfl, Fr.refl _ _, rfl⟩)
                    · intro ρ w347o F347o hS hρ
                      have G399 : Fr (b86 :: (b52 :: L)) w110r w347o := Fr.ext F347o
                      have q77 : ρ 77 = .pointer (some (elemA A80 (kI .i64).n s110.toNat)) := hS 3 (by decide) 77 rfl
                      exact o_v (r_ld' one_int q77 (elemA_spot _ _ _) ((H350'.fr G399 (fun _ h => h)).now.1.at0 (elemA_spot _ _ _))) rfl rfl rfl (eo_nil ⟨rfl, rfl, _, rfl, Fr.refl _ _, rfl⟩)
                    · intro ρ w347o F347o hS hρ
                      have q6 : ρ 6 = .pointer (some ⟨b13, 0, none⟩) := hρ 6 (by kernel_rfl)
                      exact o_v (r_fa fld_api_Value_5 rfl q6) rfl rfl rfl (eo_nil ⟨rfl, rfl, _, rfl, Fr.refl _ _, rfl⟩)
                    · intro ρ w347o F347o hS hρ
                      have q79 : ρ 79 = .pointer (some ⟨b13, 5, none⟩) := hS 5 (by decide) 79 rfl
                      exact o_v (r_ld one_s_int q79 ((S13.fr (G112.trans (Fr.ext F347o)) (fun _ h => h)).now.cell rfl)) rfl rfl rfl (eo_nil ⟨rfl, rfl, _, rfl, Fr.refl _ _, rfl⟩)
                    · intro ρ w347o F347o hS hρ
                      have q15 : ρ 15 = .int .i64 s110 := hρ 15 (by kernel_rfl)
                      exact o_v (r_mov q15) rfl rfl rfl (eo_nil ⟨rfl, rfl, _, rfl, Fr.refl _ _, rfl⟩)
                    · intro ρ w347o F347o hS hρ
                      have q80 : ρ 80 = .slice A1 d2.plus.length c2 := hS 6 (by decide) 80 rfl
                      have q81 : ρ 81 = .int .i64 s110 := hS 7 (by decide) 81 rfl
                      exact o_v (r_ia slc_s_int q80 q81 ((H3.fr (G111.trans (Fr.ext F347o)) (fun _ h => h)).now.2 _ (lt_toNat ha352.1 ha352.2)).1 ha352.1 ha352.2) rfl rfl rfl (eo_nil ⟨rfl, rfl, _, rfl, Fr.refl _ _, rfl⟩)
                    · intro ρ w347o F347o hS hρ
                      have G429 : Fr (b86 :: (b52 :: L)) w110r w347o := Fr.ext F347o
                      have q82 : ρ 82 = .pointer (some (elemA A1 (kI .i64).n s110.toNat)) := hS 8 (by decide) 82 rfl
                      exact o_v (r_ld' one_int q82 (elemA_spot _ _ _) ((H354'.fr G429 (fun _ h => h)).now.1.at0 (elemA_spot _ _ _))) rfl rfl rfl (eo_nil ⟨rfl, rfl, _, rfl, Fr.refl _ _, rfl⟩)
                    · intro ρ w347o F347o hS hρ
                      have q7 : ρ 7 = .pointer (some ⟨b15, 0, none⟩) := hρ 7 (by kernel_rfl)
                      exact o_v (r_fa fld_api_Value_5 rfl q7) rfl rfl rfl (eo_nil ⟨rfl, rfl, _, rfl, Fr.refl _ _, rfl⟩)
                    · intro ρ w347o F347o hS hρ
                      have q84 : ρ 84 = .pointer (some ⟨b15, 5, none⟩) := hS 10 (by decide) 84 rfl
                      exact o_v (r_ld one_s_int q84 ((S15.fr (G113.trans (Fr.ext F347o)) (fun _ h => h)).now.cell rfl)) rfl rfl rfl (eo_nil ⟨rfl, rfl, _, rfl, Fr.refl _ _, rfl⟩)
                    · intro ρ w347o F347o hS hρ
                      have q15 : ρ 15 = .int .i64 s110 := hρ 15 (by kernel_rfl)
                      exact o_v (r_mov q15) rfl rfl rfl (eo_nil ⟨rfl, rfl, _, rfl, Fr.refl _ _, rfl⟩)
                    · intro ρ w347o F347o hS hρ
                      have q85 : ρ 85 = .slice A7 d3.plus.length c8 := hS 11 (by decide) 85 rfl
                      have q86 : ρ 86 = .int .i64 s110 := hS 12 (by decide) 86 rfl
                      exact o_v (r_ia slc_s_int q85 q86 ((H9.fr (G111.trans (Fr.ext F347o)) (fun _ h => h)).now.2 _ (lt_toNat ha356.1 ha356.2)).1 ha356.1 ha356.2) rfl rfl rfl (eo_nil ⟨rfl, rfl, _, rfl, Fr.refl _ _, rfl⟩)
                    · intro ρ w347o F347o hS hρ
                      have G459 : Fr (b86 :: (b52 :: L)) w110r w347o := Fr.ext F347o
                      have q87 : ρ 87 = .pointer (some (elemA A7 (kI .i64).n s110.toNat)) := hS 13 (by decide) 87 rfl
                      exact o_v (r_ld' one_int q87 (elemA_spot _ _ _) ((H358'.fr G459 (fun _ h => h)).now.1.at0 (elemA_spot _ _ _))) rfl rfl rfl (eo_nil ⟨rfl, rfl, _, rfl, Fr.refl _ _, rfl⟩)
                    · intro ρ w347o F347o hS hρ
                      have q83 : ρ 83 = .int .i64 (nth d2.plus s110) := hS 9 (by decide) 83 rfl
                      have q88 : ρ 88 = .int .i64 (nth d3.plus s110) := hS 14 (by decide) 88 rfl
                      exact o_v (r_max q83 q88) rfl rfl rfl (eo_nil ⟨rfl, rfl, _, rfl, Fr.refl _ _, rfl⟩)
                    · intro ρ w347o F347o hS hρ
                      have q78 : ρ 78 = .int .i64 (nth x69.1.plus s110) := hS 4 (by decide) 78 rfl
                      have q89 : ρ 89 = .int .i64 (max (nth d2.plus s110) (nth d3.plus s110)) := hS 15 (by decide) 89 rfl
                      exact o_v (r_int q78 q89 rfl) rfl rfl rfl (eo_nil ⟨rfl, rfl, _, rfl, Fr.refl _ _, rfl⟩)
                    · intro ρ w347o F347o hS hρ
                      have q90 : ρ 90 = .bool ((nth x69.1.plus s110) != (max (nth d2.plus s110) (nth d3.plus s110))) := hS 16 (by decide) 90 rfl
                      exact o_v (r_mov q90) rfl rfl rfl (eo_nil ⟨rfl, rfl, _, rfl, Fr.refl _ _, rfl⟩)
                    · intro ρ w347o F347o hS hρ
                      have q13 : ρ 13 = .pointer (some ⟨b86, 0, none⟩) := hρ 13 (by kernel_rfl)
                      have q91 : ρ 91 = .bool ((nth x69.1.plus s110) != (max (nth d2.plus s110) (nth d3.plus s110))) := hS 17 (by decide) 91 rfl
                      exact o_v (r_fa fld_api_Value_6 rfl q13) (want_t (t := 91) rfl q91 hc161) rfl rfl (eo_nil ⟨rfl, rfl, _, rfl, Fr.refl _ _, rfl⟩)
                    · intro ρ w347o F347o hS hρ
                      have q91 : ρ 91 = .bool ((nth x69.1.plus s110) != (max (nth d2.plus s110) (nth d3.plus s110))) := hS 17 (by decide) 91 rfl
                      have q92 : ρ 92 = .pointer (some ⟨b86, 6, none⟩) := hS 18 (by decide) 92 rfl
                      exact o_v (r_ld one_s_int q92 ((B110rb86.ex F347o).cell rfl)) (want_t (t := 91) rfl q91 hc161) rfl rfl (eo_nil ⟨rfl, rfl, _, rfl, Fr.refl _ _, rfl⟩)
                    · intro ρ w347o F347o hS hρ
                      have q15 : ρ 15 = .int .i64 s110 := hρ 15 (by kernel_rfl)
                      have q91 : ρ 91 = .bool ((nth x69.1.plus s110) != (max (nth d2.plus s110) (nth d3.plus s110))) := hS 17 (by decide) 91 rfl
                      exact o_v (r_mov q15) (want_t (t := 91) rfl q91 hc161) rfl rfl (eo_nil ⟨rfl, rfl, _, rfl, Fr.refl _ _, rfl⟩)
                    · intro ρ w347o F347o hS hρ
                      have q91 : ρ 91 = .bool ((nth x69.1.plus s110) != (max (nth d2.plus s110) (nth d3.plus s110))) := hS 17 (by decide) 91 rfl
                      have q93 : ρ 93 = .slice A83 x69.1.minus.length c84 := hS 19 (by decide) 93 rfl
                      have q94 : ρ 94 = .int .i64 s110 := hS 20 (by decide) 94 rfl
                      exact o_v (r_ia slc_s_int q93 q94 ((H85.fr (G115.trans (Fr.ext F347o)) (fun _ h => h)).now.2 _ (lt_toNat ha360.1 ha360.2)).1 ha360.1 ha360.2) (want_t (t := 91) rfl q91 hc161) rfl rfl (eo_nil ⟨rfl, rfl, _, rfl, Fr.refl _ _, rfl⟩)
                    · intro ρ w347o F347o hS hρ
                      have G489 : Fr (b86 :: (b52 :: L)) w110r w347o := Fr.ext F347o
                      have q91 : ρ 91 = .bool ((nth x69.1.plus s110) != (max (nth d2.plus s110) (nth d3.plus s110))) := hS 17 (by decide) 91 rfl
                      have q95 : ρ 95 = .pointer (some (elemA A83 (kI .i64).n s110.toNat)) := hS 21 (by decide) 95 rfl
                      exact o_v (r_ld' one_int q95 (elemA_spot _ _ _) ((H362'.fr G489 (fun _ h => h)).now.1.at0 (elemA_spot _ _ _))) (want_t (t := 91) rfl q91 hc161) rfl rfl (eo_nil ⟨rfl, rfl, _, rfl, Fr.refl _ _, rfl⟩)
                    · intro ρ w347o F347o hS hρ
                      have q6 : ρ 6 = .pointer (some ⟨b13, 0, none⟩) := hρ 6 (by kernel_rfl)
                      have q91 : ρ 91 = .bool ((nth x69.1.plus s110) != (max (nth d2.plus s110) (nth d3.plus s110))) := hS 17 (by decide) 91 rfl
                      exact o_v (r_fa fld_api_Value_6 rfl q6) (want_t (t := 91) rfl q91 hc161) rfl rfl (eo_nil ⟨rfl, rfl, _, rfl, Fr.refl _ _, rfl⟩)
                    · intro ρ w347o F347o hS hρ
                      have q91 : ρ 91 = .bool ((nth x69.1.plus s110) != (max (nth d2.plus s110) (nth d3.plus s110))) := hS 17 (by decide) 91 rfl
                      have q97 : ρ 97 = .pointer (some ⟨b13, 6, none⟩) := hS 23 (by decide) 97 rfl
                      exact o_v (r_ld one_s_int q97 ((S13.fr (G112.trans (Fr.ext F347o)) (fun _ h => h)).now.cell rfl)) (want_t (t := 91) rfl q91 hc161) rfl rfl (eo_nil ⟨rfl, rfl, _, rfl, Fr.refl _ _, rfl⟩)
                    · intro ρ w347o F347o hS hρ
                      have q15 : ρ 15 = .int .i64 s110 := hρ 15 (by kernel_rfl)
                      have q91 : ρ 91 = .bool ((nth x69.1.plus s110) != (max (nth d2.plus s110) (nth d3.plus s110))) := hS 17 (by decide) 91 rfl
                      exact o_v (r_mov q15) (want_t (t := 91) rfl q91 hc161) rfl rfl (eo_nil ⟨rfl, rfl, _, rfl, Fr.refl _ _, rfl⟩)
                    · intro ρ w347o F347o hS hρ
                      have q91 : ρ 91 = .bool ((nth x69.1.plus s110) != (max (nth d2.plus s110) (nth d3.plus s110))) := hS 17 (by decide) 91 rfl
                      have q98 : ρ 98 = .slice A4 d2.minus.length c5 := hS 24 (by decide) 98 rfl
                      have q99 : ρ 99 = .int .i64 s110 := hS 25 (by decide) 99 rfl
                      exact o_v (r_ia slc_s_int q98 q99 ((H6.fr (G111.trans (Fr.ext F347o)) (fun _ h => h)).now.2 _ (lt_toNat ha364.1 ha364.2)).1 ha364.1 ha364.2) (want_t (t := 91) rfl q91 hc161) rfl rfl (eo_nil ⟨rfl, rfl, _, rfl, Fr.refl _ _, rfl⟩)
                    · intro ρ w347o F347o hS hρ
                      have G519 : Fr (b86 :: (b52 :: L)) w110r w347o := Fr.ext F347o
                      have q91 : ρ 91 = .bool ((nth x69.1.plus s110) != (max (nth d2.plus s110) (nth d3.plus s110))) := hS 17 (by decide) 91 rfl
                      have q100 : ρ 100 = .pointer (some (elemA A4 (kI .i64).n s110.toNat)) := hS 26 (by decide) 100 rfl
                      exact o_v (r_ld' one_int q100 (elemA_spot _ _ _) ((H366'.fr G519 (fun _ h => h)).now.1.at0 (elemA_spot _ _ _))) (want_t (t := 91) rfl q91 hc161) rfl rfl (eo_nil ⟨rfl, rfl, _, rfl, Fr.refl _ _, rfl⟩)
                    · intro ρ w347o F347o hS hρ
                      have q7 : ρ 7 = .pointer (some ⟨b15, 0, none⟩) := hρ 7 (by kernel_rfl)
                      have q91 : ρ 91 = .bool ((nth x69.1.plus s110) != (max (nth d2.plus s110) (nth d3.plus s110))) := hS 17 (by decide) 91 rfl
                      exact o_v (r_fa fld_api_Value_6 rfl q7) (want_t (t := 91) rfl q91 hc161) rfl rfl (eo_nil ⟨rfl, rfl, _, rfl, Fr.refl _ _, rfl⟩)
                    · intro ρ w347o F347o hS hρ
                      have q91 : ρ 91 = .bool ((nth x69.1.plus s110) != (max (nth d2.plus s110) (nth d3.plus s110))) := hS 17 (by decide) 91 rfl
                      have q102 : ρ 102 = .pointer (some ⟨b15, 6, none⟩) := hS 28 (by decide) 102 rfl
                      exact o_v (r_ld one_s_int q102 ((S15.fr (G113.trans (Fr.ext F347o)) (fun _ h => h)).now.cell rfl)) (want_t (t := 91) rfl q91 hc161) rfl rfl (eo_nil ⟨rfl, rfl, _, rfl, Fr.refl _ _, rfl⟩)
                    · intro ρ w347o F347o hS hρ
                      have q15 : ρ 15 = .int .i64 s110 := hρ 15 (by kernel_rfl)
                      have q91 : ρ 91 = .bool ((nth x69.1.plus s110) != (max (nth d2.plus s110) (nth d3.plus s110))) := hS 17 (by decide) 91 rfl
                      exact o_v (r_mov q15) (want_t (t := 91) rfl q91 hc161) rfl rfl (eo_nil ⟨rfl, rfl, _, rfl, Fr.refl _ _, rfl⟩)
                    · intro ρ w347o F347o hS hρ
                      have q91 : ρ 91 = .bool ((nth x69.1.plus s110) != (max (nth d2.plus s110) (nth d3.plus s110))) := hS 17 (by decide) 91 rfl
                      have q103 : ρ 103 = .slice A10 d3.minus.length c11 := hS 29 (by decide) 103 rfl
                      have q104 : ρ 104 = .int .i64 s110 := hS 30 (by decide) 104 rfl
                      exact o_v (r_ia slc_s_int q103 q104 ((H12.fr (G111.trans (Fr.ext F347o)) (fun _ h => h)).now.2 _ (lt_toNat ha368.1 ha368.2)).1 ha368.1 ha368.2) (want_t (t := 91) rfl q91 hc161) rfl rfl (eo_nil ⟨rfl, rfl, _, rfl, Fr.refl _ _, rfl⟩)
                    · intro ρ w347o F347o hS hρ
                      have G549 : Fr (b86 :: (b52 :: L)) w110r w347o := Fr.ext F347o
                      have q91 : ρ 91 = .bool ((nth x69.1.plus s110) != (max (nth d2.plus s110) (nth d3.plus s110))) := hS 17 (by decide) 91 rfl
                      have q105 : ρ 105 = .pointer (some (elemA A10 (kI .i64).n s110.toNat)) := hS 31 (by decide) 105 rfl
                      exact o_v (r_ld' one_int q105 (elemA_spot _ _ _) ((H370'.fr G549 (fun _ h => h)).now.1.at0 (elemA_spot _ _ _))) (want_t (t := 91) rfl q91 hc161) rfl rfl (eo_nil ⟨rfl, rfl, _, rfl, Fr.refl _ _, rfl⟩)
                    · intro ρ w347o F347o hS hρ
                      have q91 : ρ 91 = .bool ((nth x69.1.plus s110) != (max (nth d2.plus s110) (nth d3.plus s110))) := hS 17 (by decide) 91 rfl
                      have q101 : ρ 101 = .int .i64 (nth d2.minus s110) := hS 27 (by decide) 101 rfl
                      have q106 : ρ 106 = .int .i64 (nth d3.minus s110) := hS 32 (by decide) 106 rfl
                      exact o_v (r_max q101 q106) (want_t (t := 91) rfl q91 hc161) rfl rfl (eo_nil ⟨rfl, rfl, _, rfl, Fr.refl _ _, rfl⟩)
                    · intro ρ w347o F347o hS hρ
                      have q91 : ρ 91 = .bool ((nth x69.1.plus s110) != (max (nth d2.plus s110) (nth d3.plus s110))) := hS 17 (by decide) 91 rfl
                      have q96 : ρ 96 = .int .i64 (nth x69.1.minus s110) := hS 22 (by decide) 96 rfl
                      have q107 : ρ 107 = .int .i64 (max (nth d2.minus s110) (nth d3.minus s110)) := hS 33 (by decide) 107 rfl
                      exact o_v (r_int q96 q107 rfl) (want_t (t := 91) rfl q91 hc161) rfl rfl (eo_nil ⟨rfl, rfl, _, rfl, Fr.refl _ _, rfl⟩)
                    · intro ρ w347o F347o hS hρ
                      have q91 : ρ 91 = .bool ((nth x69.1.plus s110) != (max (nth d2.plus s110) (nth d3.plus s110))) := hS 17 (by decide) 91 rfl
                      have q108 : ρ 108 = .bool ((nth x69.1.minus s110) != (max (nth d2.minus s110) (nth d3.minus s110))) := hS 34 (by decide) 108 rfl
                      exact o_v (r_pickF q91 hc161 q108) rfl rfl rfl (eo_nil ⟨rfl, rfl, _, rfl, Fr.refl _ _, rfl⟩)
                  · intro ρ w347 F347 hS hρ
                    have q92 : ρ 92 = .pointer (some ⟨b86, 6, none⟩) := hS 18 92 rfl
                    have q93 : ρ 93 = .slice A83 x69.1.minus.length c84 := hS 19 93 rfl
                    have q94 : ρ 94 = .int .i64 s110 := hS 20 94 rfl
                    have q95 : ρ 95 = .pointer (some (elemA A83 (kI .i64).n s110.toNat)) := hS 21 95 rfl
                    have q96 : ρ 96 = .int .i64 (nth x69.1.minus s110) := hS 22 96 rfl
                    have q97 : ρ 97 = .pointer (some ⟨b13, 6, none⟩) := hS 23 97 rfl
                    have q98 : ρ 98 = .slice A4 d2.minus.length c5 := hS 24 98 rfl
                    have q99 : ρ 99 = .int .i64 s110 := hS 25 99 rfl
                    have q100 : ρ 100 = .pointer (some (elemA A4 (kI .i64).n s110.toNat)) := hS 26 100 rfl
                    have q101 : ρ 101 = .int .i64 (nth d2.minus s110) := hS 27 101 rfl
                    have q102 : ρ 102 = .pointer (some ⟨b15, 6, none⟩) := hS 28 102 rfl
                    have q103 : ρ 103 = .slice A10 d3.minus.length c11 := hS 29 103 rfl
                    have q104 : ρ 104 = .int .i64 s110 := hS 30 104 rfl
                    have q105 : ρ 105 = .pointer (some (elemA A10 (kI .i64).n s110.toNat)) := hS 31 105 rfl
                    have q106 : ρ 106 = .int .i64 (nth d3.minus s110) := hS 32 106 rfl
                    have q107 : ρ 107 = .int .i64 (max (nth d2.minus s110) (nth d3.minus s110)) := hS 33 107 rfl
                    have q108 : ρ 108 = .bool ((nth x69.1.minus s110) != (max (nth d2.minus s110) (nth d3.minus s110))) := hS 34 108 rfl
                    have q109 : ρ 109 = .bool ((nth x69.1.minus s110) != (max (nth d2.minus s110) (nth d3.minus s110))) := hS 35 109 rfl
                    obtain ⟨ρ', rfl⟩ : ∃ ρ', ρ = envs (ovr [74, 75, 76, 77, 78, 79, 80, 81, 82, 83, 84, 85, 86, 87, 88, 89, 90, 91, 92, 93, 94, 95, 96, 97, 98, 99, 100, 101, 102, 103, 104, 105, 106, 107, 108, 109] ρ' _) [(92, .pointer (some ⟨b86, 6, none⟩)), (93, .slice A83 x69.1.minus.length c84), (94, .int .i64 s110), (95, .pointer (some (elemA A83 (kI .i64).n s110.toNat))), (96, .int .i64 (nth x69.1.minus s110)), (97, .pointer (some ⟨b13, 6, none⟩)), (98, .slice A4 d2.minus.length c5), (99, .int .i64 s110), (100, .pointer (some (elemA A4 (kI .i64).n s110.toNat))), (101, .int .i64 (nth d2.minus s110)), (102, .pointer (some ⟨b15, 6, none⟩)), (103, .slice A10 d3.minus.length c11), (104, .int .i64 s110), (105, .pointer (some (elemA A10 (kI .i64).n s110.toNat))), (106, .int .i64 (nth d3.minus s110)), (107, .int .i64 (max (nth d2.minus s110) (nth d3.minus s110))), (108, .bool ((nth x69.1.minus s110) != (max (nth d2.minus s110) (nth d3.minus s110)))), (109, .bool ((nth x69.1.minus s110) != (max (nth d2.minus s110) (nth d3.minus s110))))] := ⟨ρ, ovr_self hρ ⟨q92, q93, q94, q95, q96, q97, q98, q99, q100, q101, q102, q103, q104, q105, q106, q107, q108, q109, trivial⟩⟩
                    have E552 := E110r.trans F347
                    refine sq_n ?_
                    refine ec_cond rfl (fun hc562 => ?_) (fun hc562 => ?_)
                    · replace h := h.1 hc562
                      refine ec_seq ?_
                      refine ec_region ?_
                      refine o_v (v := .bool false) (r_asg rfl) rfl rfl rfl ?_
                      refine eo_nil_sq ?_
                      refine ec_ret ?_
                      refine blk_ret ?_
                      refine sq_ret ?_
                      subst h
                      exact lqR_r (end1 rfl ⟨_, rfl, E552, rfl⟩)
                    · replace h := h.2 hc562
                      refine ec_skip ?_
                      refine blk_n ?_
                      refine sq_n ?_
                      refine ec_region ?_
                      refine o_v (v := .int .i64 s110) (r_mov rfl) rfl rfl rfl ?_
                      refine o_v (v := .int .i64 (IntKind.i64.wrap (s110 + (1 : Int)))) (r_int rfl rfl rfl) rfl rfl rfl ?_
                      refine o_v (v := .int .i64 (IntKind.i64.wrap (s110 + (1 : Int)))) (r_asg rfl) rfl rfl rfl ?_
                      refine eo_nil ?_
                      subst h
                      exact lqR_n ⟨_, envs_self ⟨rfl, rfl, rfl, rfl, rfl, trivial⟩, rfl, (F110r.trans (Fr.ext F347)), E552, (B110rb52.ex F347), (B110rb86.ex F347)⟩
              · replace h := h.2 hc116
                refine ec_exit ?_
                refine sq_exit ?_
                subst h
                exact lqR_x ⟨_, envs_self ⟨rfl, rfl, rfl, rfl, rfl, trivial⟩, rfl, F110r, E110r, B110rb52, B110rb86⟩
            · exact ⟨_, envs_self ⟨rfl, rfl, rfl, rfl, rfl, trivial⟩, rfl, (Fr.refl _ _), E101, B107, B100'⟩
            · rintro sx110 rfl ρ110e ds110e w110e ⟨ρ110e, rfl, rfl, F110e, E110e, B110eb52, B110eb86⟩
              replace h := h.1 _ rfl
              refine blk_hit ?_
              refine sq_n ?_
              refine ec_seq ?_
              refine ec_region ?_
              refine o_v (v := .bool (worksV)) (r_mov rfl) rfl rfl rfl ?_
              refine o_v (v := .bool (worksV)) (r_asg rfl) rfl rfl rfl ?_
              refine eo_nil_sq ?_
              refine ec_ret ?_
              subst h
              exact (end1 rfl ⟨_, rfl, E110e, rfl⟩)
            · rintro y110 rfl ρ110q ds110q w110q hJ
              have hy := h.2 _ rfl
              subst hy
              refine blk_ret ?_
              refine sq_ret ?_
              exact hJ
end Go.Proofs.Ytdojgmmpcdbeoaa
