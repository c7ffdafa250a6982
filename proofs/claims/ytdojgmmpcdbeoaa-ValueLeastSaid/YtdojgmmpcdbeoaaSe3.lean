/- ValueLeast: the join is the least value that both are below. -/
import Derived.Test.YtdojgmmpcdbeoaaGc3
import Derived.Test.YtdojgmmpcdbeoaaSf
namespace Go.Proofs.Ytdojgmmpcdbeoaa
open Go Go.RowKit
set_option linter.unusedVariables false
set_option linter.unusedSimpArgs false

theorem valueLeast_ev (a b c : Val) (ga : GVal a) (gb : GVal b) (gc : GVal c) : law06_ValueLeast_raw a b c true := by
  refine ⟨fun h => (by cases h), fun _ => ⟨fun f1 => rfl, fun f1 => ?_⟩⟩
  have f1 := of_not f1
  have sa := few_sm (andL (andL f1))
  have sb := few_sm (andR (andL f1))
  have sc := few_sm (andR f1)
  have sab := sm_join sa sb
  have sl := sm_least a.kind
  have wa := ga.1
  have wb := gb.1
  have wc := gc.1
  repeat' first
    | (refine ⟨_, rfl, ?_⟩)
    | (refine ⟨?_, ?_⟩; assumption)
    | (refine ⟨fun _ => ?_, ?_⟩; assumption)
  refine ⟨fun h => ?_, fun _ => ⟨fun h => ?_, fun h => ?_⟩⟩
  · exfalso
    simp only [Bool.or_eq_true, Bool.and_eq_true, Bool.not_eq_true', beq_iff_eq, bne_iff_ne] at h
    obtain ⟨h0, h⟩ := h
    obtain ⟨h1, h2⟩ := least_ok ((checkV_0 a).1 h0) wa
    rcases h with h | h
    · exact h h1
    · rw [h2] at h; cases h
  · have h' : (joinV a b).2 ≠ 0 := by simpa using h
    have h2 : (joinV b a).2 ≠ 0 := by rw [joinV_e_comm]; exact h'
    refine ⟨sa, sb, fun _ => sb, fun _ => sa, ?_⟩
    rw [below_no h', below_no h2]; rfl
  · have h0 := (joinV_2 a b).1 (by simpa using h)
    have e1 := below_l h0 wa wb
    have e2 := below_r h0 wa wb
    refine ⟨sa, sab, fun _ => sb, fun _ => sab, fun _ => sab, fun h => ?_, fun _ => ⟨sa, sc, fun _ => sb, fun _ => sc, sab, sc, ?_⟩⟩
    · exfalso
      rw [e1, e2] at h
      have := (checkV_0 _).2 (J_ok h0)
      rw [this] at h; simp at h
    · rw [below_lub h0 wa wb wc]; simp
end Go.Proofs.Ytdojgmmpcdbeoaa
