/- Numbers and sums put and got, in plain Lean. -/
import Derived.Test.YtdfjbkoimpjkaaaGreatMm
import Derived.Test.YtdfjbkoimpjkaaaGreatHk
namespace Go.Proofs.YtdfjbkoimpjkaaaGreat
open Go Go.RowKit
set_option linter.unusedVariables false
set_option linter.unusedSimpArgs false
theorem restF_nat:∀ (k n:Nat),restF k (n:Int)=((n / 256 ^ k:Nat):Int)
 | 0,n=>by show (n:Int)=_; rw [Nat.pow_zero,Nat.div_one]
 | k + 1,n=>by
  show restF k (sh8 (n:Int))=_
  rw [sh8_nat,restF_nat k,Nat.div_div_eq_div_mul,Nat.pow_succ,Nat.mul_comm]
/-- What can be put. -/
theorem putO4 {n : Int} (h : (putO n 4).2 = 0) : (putO n 4).1.length = 4 ∧ (leN (putO n 4).1 : Int) = n := by
  have h0 : 0 ≤ n := by
    rcases Int.lt_or_le n 0 with hn | hn
    · exfalso
      revert h; unfold putO
      rw [show ((decide ((4 : Int) < 1) || decide ((7 : Int) < 4)) || decide (n < 0)) = true by simp; omega]
      intro h; cases h
    · exact hn
  obtain ⟨m, rfl⟩ := Int.eq_ofNat_of_zero_le h0
  have hm : m < 256 ^ 4 := by
    rcases Nat.lt_or_ge m (256 ^ 4) with h1 | h1
    · exact h1
    · exfalso
      revert h; unfold putO
      rw [show ((decide ((4 : Int) < 1) || decide ((7 : Int) < 4)) || decide ((m : Int) < 0)) = false by simp, show (4 : Int).toNat = 4 from rfl, restF_nat]
      have : 0 < m / 256 ^ 4 := Nat.div_pos h1 (by decide)
      rw [show decide ((0 : Int) < ((m / 256 ^ 4 : Nat) : Int)) = true by simp; omega]
      intro h; cases h
  obtain ⟨_, h2, h3⟩ := putO_fit (n := (m : Int)) 4 (by decide) (by decide) h0 (by omega)
  exact ⟨h2, h3⟩
theorem putD_ok {l:List Int} (h:(putD l).2=0):(∀ i,i<4→(putO (nth l ((i:Nat):Int)) 4).2=0)∧(putD l).1=(((([]++(putO (nth l ((0:Nat):Int)) 4).1)++(putO (nth l ((1:Nat):Int)) 4).1)++(putO (nth l ((2:Nat):Int)) 4).1)++(putO (nth l ((3:Nat):Int)) 4).1):=by
 revert h
 unfold putD
 simp only [putDF]
 cases h0:((putO (nth l ((0:Nat):Int)) 4).2 != 0) with
 | true=>intro h; cases h
 | false =>
  cases h1:((putO (nth l ((0 + 1:Nat):Int)) 4).2 != 0) with
  | true=>intro h; cases h
  | false =>
   cases h2:((putO (nth l ((0 + 1 + 1:Nat):Int)) 4).2 != 0) with
   | true=>intro h; cases h
   | false =>
    cases h3:((putO (nth l ((0 + 1 + 1 + 1:Nat):Int)) 4).2 != 0) with
    | true=>intro h; cases h
    | false =>
     intro _
     refine ⟨fun i hi=>?_,rfl⟩
     have hi4:i=0∨i=1∨i=2∨i=3:=by omega
     rcases hi4 with rfl | rfl | rfl | rfl
     ·simpa using h0
     ·simpa using h1
     ·simpa using h2
     ·simpa using h3
theorem getD_ok {s:Str} (h:s.length=16):getD s=(getD4 s,0):=by
 unfold getD; rw [show ((s.length:Int) != 16)=false by rw [h]; rfl]; rfl
end Go.Proofs.YtdfjbkoimpjkaaaGreat
