/- ValueLater: a register of greater time is behind. -/
import Derived.Test.YtdojgmmpcdbeoaaGc5
import Derived.Test.YtdojgmmpcdbeoaaSf
namespace Go.Proofs.Ytdojgmmpcdbeoaa
open Go Go.RowKit
set_option linter.unusedVariables false
set_option linter.unusedSimpArgs false

theorem valueLater_ev (a b : Val) (ga : GVal a) (gb : GVal b) : law06_ValueLater_raw a b true := by
  have key : (fewV a && fewV b) = false ∨ (fewV a && fewV b) = true := Bool.eq_false_or_eq_true _ |>.symm
  rcases key with key | f1
  · refine ⟨fun h => (by cases h), fun _ => ⟨fun h => ?_, fun h => ?_, fun _ => rfl, fun h => ?_⟩⟩
    all_goals (exfalso; rw [key] at h; simp at h)
  have sa := few_sm (andL f1)
  have sb := few_sm (andR f1)
  have sab := sm_join sa sb
  refine ⟨fun h => (by cases h), fun _ => ⟨fun _ => sa, fun _ => sb, fun _ => rfl, fun h => ⟨sa, sb, _, rfl, fun h1 => ⟨fun _ => sab, ?_⟩, fun h1 => ?_⟩⟩⟩ <;>
    simp only [Bool.or_eq_false_iff, bne_eq_false_iff_eq] at h <;> obtain ⟨⟨⟨⟨_, ka⟩, kb⟩, ca⟩, cb⟩ := h <;> have h0 : Ok2 a b := ⟨(checkV_0 a).1 ca, (checkV_0 b).1 cb, by rw [ka, kb]⟩ <;> rw [(joinV_2 a b).2 h0]
  · have hl : ltR b a := by
      simp only [Bool.or_eq_true, Bool.and_eq_true, decide_eq_true_eq, beq_iff_eq, Bool.not_eq_true'] at h1
      rcases h1 with (h1 | h1) | h1
      · exact .inl h1
      · exact .inr ⟨h1.1.symm, .inl h1.2⟩
      · exact .inr ⟨h1.1.1.1.symm, .inr ⟨h1.1.1.2.symm, .inl ⟨h1.2, h1.1.2⟩⟩⟩
    have : (joinV a b).1 = a := by
      show J a b = a
      rw [J_1 h0 ka]
      cases hb : behind b a with
      | false => rfl
      | true => exact absurd ((behind_iff a b).1 hb) (ltR_asymm hl)
    rw [this, sameV_self]; rfl
  · have hn : ¬ b.time < a.time := by
      intro h
      have e : decide (b.time < a.time) = true := by simpa using h
      rw [e] at h1; simp at h1
    have : (joinV a b).1.time = max a.time b.time := by
      show (J a b).time = _
      rw [J_1 h0 ka]
      cases hb : behind b a with
      | true =>
        have := (behind_iff a b).1 hb
        show b.time = _
        unfold ltR at this
        omega
      | false =>
        show a.time = _
        have : ¬ ltR a b := fun h => by rw [(behind_iff a b).2 h] at hb; cases hb
        have : ¬ a.time < b.time := fun h => this (.inl h)
        omega
    rw [this]; simp
end Go.Proofs.Ytdojgmmpcdbeoaa
