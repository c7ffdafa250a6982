/- ValueOrder: below is an order; of two registers one is below the other one. -/
import Derived.Test.YtdojgmmpcdbeoaaGc4
import Derived.Test.YtdojgmmpcdbeoaaSf
namespace Go.Proofs.Ytdojgmmpcdbeoaa
open Go Go.RowKit
set_option linter.unusedVariables false
set_option linter.unusedSimpArgs false

theorem valueOrder_ev (a b c : Val) (ga : GVal a) (gb : GVal b) (gc : GVal c) : law06_ValueOrder_raw a b c true := by
  refine ⟨fun h => (by cases h), fun _ => ⟨fun f1 => rfl, fun f1 => ?_⟩⟩
  have f1 := of_not f1
  have sa := few_sm (andL (andL f1))
  have sb := few_sm (andR (andL f1))
  have sc := few_sm (andR f1)
  have sab := sm_join sa sb
  have wa := ga.1
  have wb := gb.1
  have wc := gc.1
  repeat' first
    | (refine ⟨_, rfl, ?_⟩)
    | (refine ⟨?_, ?_⟩; assumption)
    | (refine ⟨fun _ => ?_, ?_⟩; assumption)
  refine ⟨fun h => ?_, fun _ => ⟨fun _ => sa, fun _ => sb, fun _ => rfl, fun h => ⟨sa, sb, _, rfl, fun _ => sab, fun _ => sab, ?_⟩⟩⟩
  · exfalso
    simp only [Bool.or_eq_true, Bool.and_eq_true, Bool.not_eq_true'] at h
    rcases h with ⟨⟨h1, h2⟩, h3⟩ | ⟨⟨h1, h2⟩, h3⟩
    · rw [below_trans wa wb wc h1 h2] at h3; cases h3
    · have := below_anti wa wb h1 h2
      subst this
      rw [sameV_self] at h3; cases h3
  · simp only [Bool.or_eq_false_iff, bne_eq_false_iff_eq] at h
    obtain ⟨⟨⟨ka, kb⟩, ca⟩, cb⟩ := h
    have h0 : Ok2 a b := ⟨(checkV_0 a).1 ca, (checkV_0 b).1 cb, by rw [ka, kb]⟩
    rw [(joinV_2 a b).2 h0]
    rcases below_reg h0 ka with h | h
    · rw [h, show (joinV a b).1 = b from ((belowV_iff a b).1 h).2, sameV_self]; simp
    · have := ((belowV_iff b a).1 h).2
      rw [← J_comm h0 wa wb] at this
      rw [h, show (joinV a b).1 = a from this, sameV_self]; simp
end Go.Proofs.Ytdojgmmpcdbeoaa
