/- ValueTells: what the document says, of any values. -/
import Derived.Test.YtdojgmmpcdbeoaaGc1
import Derived.Test.YtdojgmmpcdbeoaaSf
namespace Go.Proofs.Ytdojgmmpcdbeoaa
open Go Go.RowKit
set_option linter.unusedVariables false
set_option linter.unusedSimpArgs false

theorem valueTells_ev (a b : Val) (k : Int) (ga : GVal a) (gb : GVal b) (gk : inK .i64 k) : law06_ValueTells_raw a b k true := by
  refine ⟨fun h => (by cases h), fun _ => ⟨fun f1 => rfl, fun f1 => ?_⟩⟩
  have f1 := of_not f1
  have sa := few_sm (andL f1)
  have sb := few_sm (andR f1)
  have sj := sm_join sa sb
  have sl := sm_least k
  repeat' first
    | (refine ⟨_, rfl, ?_⟩)
    | (refine ⟨?_, ?_⟩; assumption)
    | (refine ⟨fun _ => ?_, ?_⟩; assumption)
  rw [checkV_ok, sameV_self, sameV_self]
  simp
end Go.Proofs.Ytdojgmmpcdbeoaa
