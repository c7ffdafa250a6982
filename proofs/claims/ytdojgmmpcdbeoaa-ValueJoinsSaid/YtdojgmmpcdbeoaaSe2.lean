/- ValueJoins: joined with itself a value is itself; two in any order, three in any grouping. -/
import Derived.Test.YtdojgmmpcdbeoaaGc2
import Derived.Test.YtdojgmmpcdbeoaaSf
namespace Go.Proofs.Ytdojgmmpcdbeoaa
open Go Go.RowKit
set_option linter.unusedVariables false
set_option linter.unusedSimpArgs false

theorem valueJoins_ev (a b c : Val) (ga : GVal a) (gb : GVal b) (gc : GVal c) : law06_ValueJoins_raw a b c true := by
  refine ⟨fun h => (by cases h), fun _ => ⟨fun f1 => rfl, fun f1 => ?_⟩⟩
  have f1 := of_not f1
  have sa := few_sm (andL (andL f1))
  have sb := few_sm (andR (andL f1))
  have sc := few_sm (andR f1)
  have saa := sm_join sa sa
  have sab := sm_join sa sb
  have sba := sm_join sb sa
  have sbc := sm_join sb sc
  have sl := sm_join sab sc
  have sr := sm_join sa sbc
  have wa := ga.1
  have wb := gb.1
  have wc := gc.1
  repeat' first
    | (refine ⟨_, rfl, ?_⟩)
    | (refine ⟨?_, ?_⟩; assumption)
    | (refine ⟨fun _ => ?_, ?_⟩; assumption)
  refine ⟨fun h => ?_, fun _ => ⟨fun _ => rfl, fun h => ⟨fun _ => by assumption, ?_⟩⟩⟩
  · exfalso
    simp only [Bool.or_eq_true, Bool.and_eq_true, Bool.not_eq_true', beq_iff_eq, bne_iff_ne, beq_eq_false_iff_ne] at h
    rcases h with ((h | h) | h) | h
    · refine h ?_
      rw [Bool.eq_iff_iff, beq_iff_eq, beq_iff_eq, joinV_2, checkV_0]
      exact ⟨fun k => k.l, fun k => ⟨k, k, rfl⟩⟩
    · exact h (joinV_e_comm a b)
    · obtain ⟨h1, h2⟩ := h
      rw [joinV_2] at h1
      rw [show (joinV a b).1 = (joinV b a).1 from J_comm h1 wa wb, sameV_self] at h2; cases h2
    · obtain ⟨h1, h2⟩ := h
      rw [joinV_2] at h1
      rw [show (joinV a a).1 = a from J_self h1.l wa, sameV_self] at h2; cases h2
  · simp only [Bool.or_eq_false_iff, bne_eq_false_iff_eq] at h
    have h1 := (joinV_2 a b).1 h.1
    have h2 := (joinV_2 b c).1 h.2
    rw [show (joinV (joinV a b).1 c).2 = 0 from (joinV_2 _ _).2 (h1.j h2), show (joinV a (joinV b c).1).2 = 0 from (joinV_2 _ _).2 (h1.j' h2), show (joinV (joinV a b).1 c).1 = (joinV a (joinV b c).1).1 from J_assoc h1 h2 wa wb wc, sameV_self]
    rfl
end Go.Proofs.Ytdojgmmpcdbeoaa
