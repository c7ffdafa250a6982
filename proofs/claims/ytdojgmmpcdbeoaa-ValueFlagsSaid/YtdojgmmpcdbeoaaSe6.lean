/- ValueFlags: flags that come together are those that one has; counters that do are none less than either. -/
import Derived.Test.YtdojgmmpcdbeoaaGc6
import Derived.Test.YtdojgmmpcdbeoaaSf
namespace Go.Proofs.Ytdojgmmpcdbeoaa
open Go Go.RowKit
set_option linter.unusedVariables false
set_option linter.unusedSimpArgs false

theorem valueFlags_ev (x y : Int) (a b : Val) (gx : inK .u64 x) (gy : inK .u64 y) (ga : GVal a) (gb : GVal b) : law06_ValueFlags_raw x y a b true := by
  refine ⟨fun h => (by cases h), fun _ => ⟨fun f1 => rfl, fun f1 => ?_⟩⟩
  have f1 := of_not f1
  have sa := few_sm (andL f1)
  have sb := few_sm (andR f1)
  have hf : Ok2 ⟨3, 0, 0, false, [], [], [], x⟩ ⟨3, 0, 0, false, [], [], [], y⟩ := ⟨by rfl, by rfl, rfl⟩
  refine ⟨⟨Nat.zero_le _, Nat.zero_le _⟩, ⟨Nat.zero_le _, Nat.zero_le _⟩, _, rfl, fun h => ?_, fun _ => ⟨sa, sb, _, rfl, fun _ => rfl, fun h => ?_⟩⟩
  · exfalso
    rw [(joinV_2 _ _).2 hf] at h
    have : (joinV ⟨3, 0, 0, false, [], [], [], x⟩ ⟨3, 0, 0, false, [], [], [], y⟩).1 = _ := J_3 hf rfl
    rw [this] at h
    simp [orF] at h
  · simp only [Bool.or_eq_false_iff, bne_eq_false_iff_eq] at h
    have h0 := (joinV_2 a b).1 h.1
    have k := h.2
    obtain ⟨a1, a2, a3, a4⟩ := okC_eq (ok2 h0.l k)
    obtain ⟨b1, b2, b3, b4⟩ := okC_eq (ok2 h0.r (by rw [← h0.k]; exact k))
    have l8 : ∀ l, okN l = true → l.length = 8 := fun l hl => by simp only [okN, Bool.and_eq_true, beq_iff_eq] at hl; exact hl.2
    have la1 := l8 _ a1
    have la2 := l8 _ a2
    have lb1 := l8 _ b1
    have lb2 := l8 _ b2
    have e : (joinV a b).1 = _ := J_2 h0 k
    have m1 : (mostL a.plus b.plus).length = 8 := by rw [mostL_length]; omega
    have m2 : (mostL a.minus b.minus).length = 8 := by rw [mostL_length]; omega
    have p1 : (joinV a b).1.plus = mostL a.plus b.plus := by rw [e]
    have p2 : (joinV a b).1.minus = mostL a.minus b.minus := by rw [e]
    refine ⟨fun h => ?_, fun _ => ?_⟩
    · exfalso
      rw [p1, p2, m1, m2] at h; simp at h
    · obtain ⟨z, hz, h2⟩ := loop_scan (body := law06_ValueFlags_b110 a b (joinV a b)) 8 (fun _ => true) (fun _ => false)
        (fun i hi _ => by
          have g1 : nth (joinV a b).1.plus (i : Int) = max (nth a.plus (i : Int)) (nth b.plus (i : Int)) := by
            rw [p1, nth_nat, nth_nat, nth_nat]; exact mostL_nth _ _ (by omega) i (by omega)
          have g2 : nth (joinV a b).1.minus (i : Int) = max (nth a.minus (i : Int)) (nth b.minus (i : Int)) := by
            rw [p2, nth_nat, nth_nat, nth_nat]; exact mostL_nth _ _ (by omega) i (by omega)
          refine ⟨fun _ => ⟨fun h => ?_, fun _ => ⟨⟨by omega, by rw [p1, m1]; omega⟩, ⟨by omega, by omega⟩, ⟨by omega, by omega⟩, ⟨by omega, by rw [p2, m2]; omega⟩, ⟨by omega, by omega⟩, ⟨by omega, by omega⟩, fun h => ?_, fun _ => by rw [wrapS (n := 8) hi (by omega)]⟩⟩, fun h => by simp at h; omega⟩
          · exfalso; rw [g1] at h; simp at h
          · exfalso; rw [g2] at h; simp at h)
        (fun i hi h => by cases h)
        ⟨fun h => by simp at h, fun _ => rfl⟩
      refine ⟨z, hz, fun _ _ => rfl, fun q hq => ?_⟩
      rcases h2 with ⟨h3, _⟩ | ⟨i, _, h4, _⟩
      · rw [h3] at hq; cases hq
      · cases h4
end Go.Proofs.Ytdojgmmpcdbeoaa
