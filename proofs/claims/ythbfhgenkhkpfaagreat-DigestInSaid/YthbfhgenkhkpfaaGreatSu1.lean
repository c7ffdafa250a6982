/- DigestTells. -/
import Derived.Test.YthbfhgenkhkpfaaGreatMg
import Derived.Test.YthbfhgenkhkpfaaGreatSe10
import Derived.Test.YthbfhgenkhkpfaaGreatBh
import Derived.Test.YthbfhgenkhkpfaaGreatPi
namespace Go.Proofs.YthbfhgenkhkpfaaGreat
open Go Go.RowKit
set_option linter.unusedVariables false
set_option linter.unusedSimpArgs false
theorem in_sml {a:Arena} (h:sma a) (m k:Int):sml (inD a m k):=by
 unfold inD
 cases (arOk a&&okM m) with
 | false=>exact ⟨Nat.zero_le _,fun e h=>by cases h⟩
 | true =>
  rw [cond_true]
  refine sml_sub h.1 (fun e he=>?_) (Nat.le_trans (inL_len m k _) h.2.1)
  exact (List.mem_filter.1 (List.mem_of_mem_take he)).1
end Go.Proofs.YthbfhgenkhkpfaaGreat
