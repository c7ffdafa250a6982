/- ValueFlags is true, whatever the input, and the input reads as it did. -/
import Derived.Test.YtdojgmmpcdbeoaaKt
import Derived.Test.YtdojgmmpcdbeoaaSe6
import Derived.Test.YtdojgmmpcdbeoaaSf
namespace Go.Proofs.Ytdojgmmpcdbeoaa
open Go Go.ChangeShapes Go.WideShapes Go.ChangeAt Go.RowKit
set_option linter.unusedVariables false
set_option maxRecDepth 100000 in
theorem valueFlags_lifted (os : Os) (started : os.Started) (H : Type) (enc : TypeId × Value → H) :
    ReturnsInHanded {} Try.checked os 9 .any (Rows.valueFlagsSpec.pre6 enc Try.prog Try.f9 Rows.valueFlagsRow.domain false) (Rows.valueFlagsSpec.post enc Try.prog Try.f9 false true false false) := by
  refine returnsInHanded_of_change (C := Try.checked) own_knob started (by kernel_rfl) Try.func9
    (ChangeSpec.witness6 (enc := enc) (C := Try.checked) false ⟨#[], #[.int .u64 0, .int .u64 0, .agg #[.int .i64 0, .int .i64 0, .int .i64 0, .bool false, .string ByteArray.empty, .slice none 0 0, .slice none 0 0, .int .u64 0], .agg #[.int .i64 0, .int .i64 0, .int .i64 0, .bool false, .string ByteArray.empty, .slice none 0 0, .slice none 0 0, .int .u64 0]], []⟩ 8 (by kernel_rfl) (by kernel_rfl) (by kernel_rfl) (by kernel_rfl)) ?_
  intro W base args ds gs before hval0 hW hcnd _
  have hval : ∀ (j : Nat) t v, Try.f9.params[j]? = some t → args[j]? = some v → Value.okWide Try.prog W .any base t v := hval0
  have hW' := hW
  obtain ⟨p, q, hA0, hV, rfl, hfz, hnd⟩ := hW
  have hA : DataW.TrodAll enc Try.prog W 0 (fun _ => true) true Try.f9.params.toList args.toList ds p := hA0
  rw [Try.params9] at hA hval
  obtain ⟨v0, vs0, d0, ds0, p0, q0, hargs, rfl, rfl, h0, r0⟩ := trodAll_cons hA
  obtain ⟨v1, vs1, d1, ds1, p1, q1, rfl, rfl, rfl, h1, r1⟩ := trodAll_cons r0
  obtain ⟨v2, vs2, d2, ds2, p2, q2, rfl, rfl, rfl, h2, r2⟩ := trodAll_cons r1
  obtain ⟨v3, vs3, d3, ds3, p3, q3, rfl, rfl, rfl, h3, r3⟩ := trodAll_cons r2
  obtain ⟨rfl, rfl, rfl⟩ := trodAll_nil r3
  obtain rfl : args = #[v0, v1, v2, v3] := by cases args; simp_all
  obtain ⟨rfl, rfl⟩ := trodVars_none hV
  have k2 := h2
  have k3 := h3
  have lt2 : ∀ x ∈ p2, x.block < W.heap.size := by obtain ⟨m, hm⟩ := k2; exact DataW.trod_lt m _ _ _ hm
  have lt3 : ∀ x ∈ p3, x.block < W.heap.size := by obtain ⟨m, hm⟩ := k3; exact DataW.trod_lt m _ _ _ hm
  obtain ⟨a0, rfl, rfl, rfl, w0⟩ := open_int un_uint64 (hval 0 _ v0 rfl rfl) h0
  obtain ⟨a1, rfl, rfl, rfl, w1⟩ := open_int un_uint64 (hval 1 _ v1 rfl rfl) h1
  obtain ⟨cs2, rfl, hsz2⟩ := okWide_struct Try.underlying25 (hval 2 _ v2 rfl rfl)
  obtain ⟨x2, _, g2, S2⟩ : ∃ d, cs2.toList.length = kVal.n ∧ GVal d ∧ Stb [] W (fun w => kVal.r w cs2.toList d) := by obtain ⟨m, hm⟩ := h2; exact opens_Val H enc _ _ _ _ _ _ _ hm
  obtain ⟨cs3, rfl, hsz3⟩ := okWide_struct Try.underlying25 (hval 3 _ v3 rfl rfl)
  obtain ⟨x3, _, g3, S3⟩ : ∃ d, cs3.toList.length = kVal.n ∧ GVal d ∧ Stb [] W (fun w => kVal.r w cs3.toList d) := by obtain ⟨m, hm⟩ := h3; exact opens_Val H enc _ _ _ _ _ _ _ hm
  clear hA0 hval0
  have hc := law_any (law06_ValueFlags_c (L := []) a0 a1 x2 S2 x3 S3 (lt_nil W) (valueFlags_ev a0 a1 x2 x3 w0 w1 g2 g3))
  simp only [Array.toArray_toList] at hc
  refine hc.mono fun e W' ⟨he, bel⟩ => ?_
  subst he
  exact ⟨_, rfl, _, _, _, [], _, [], hW', trodAll_mk1 (shut_bool un_bool _), (trodAll_cons_mk (shut_int un_uint64 w0) (trodAll_cons_mk (shut_int un_uint64 w1) (trodAll_cons_mk (Below.trod laid_out (by kernel_rfl) (of_decide_eq_true (by kernel_rfl)) k2 bel lt2) (trodAll_cons_mk (Below.trod laid_out (by kernel_rfl) (of_decide_eq_true (by kernel_rfl)) k3 bel lt3) trodAll_mk0)))), rfl, bel.frame _, fun h => by cases h⟩
theorem valueFlags_closed : joinedFacts Try.prog 9 Try.f9 Rows.valueFlagsSpec Rows.valueFlagsRow = true := by kernel_rfl
theorem valueFlags_holds : Rows.ValueFlagsSaid :=
  OpenClaim.holds_of_wide 9 Try.f9 rfl rfl rfl rfl rfl rfl rfl ⟨rfl, rfl, rfl, rfl, rfl⟩ rfl rfl rfl rfl rfl (by kernel_rfl) Try.func9 valueFlags_closed
    (of_decide_eq_true (by kernel_rfl)) (by unfold Func.isWrapper; first | (rw [if_pos (by decide +kernel)]; kernel_rfl) | (rw [if_neg (by decide +kernel)]; exact ⟨rfl, rfl⟩))
    (fun os started H enc _ => valueFlags_lifted os started H enc)
#print axioms valueFlags_holds
end Go.Proofs.Ytdojgmmpcdbeoaa
