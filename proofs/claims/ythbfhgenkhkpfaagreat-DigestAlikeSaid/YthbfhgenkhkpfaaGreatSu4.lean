/- What an entry changes of sums. -/
import Derived.Test.YthbfhgenkhkpfaaGreatMg
import Derived.Test.YthbfhgenkhkpfaaGreatSe10
import Derived.Test.YthbfhgenkhkpfaaGreatBh
import Derived.Test.YthbfhgenkhkpfaaGreatPi
import Derived.Test.YthbfhgenkhkpfaaGreatAm
namespace Go.Proofs.YthbfhgenkhkpfaaGreat
open Go Go.RowKit
set_option linter.unusedVariables false
set_option linter.unusedSimpArgs false
theorem sumsD_ok {a:Arena} (h:arOk a=true):sumsD a=sums4 a.slots:=by unfold sumsD; rw [h]; rfl
end Go.Proofs.YthbfhgenkhkpfaaGreat
