/- DigestChanges: a new entry changes the sum of its bucket, unless its own sum is nought. -/
import Derived.Test.YthbfhgenkhkpfaaGreatMg
import Derived.Test.YthbfhgenkhkpfaaGreatSu4
namespace Go.Proofs.YthbfhgenkhkpfaaGreat
open Go Go.RowKit
set_option linter.unusedVariables false
set_option linter.unusedSimpArgs false
theorem dif_self (l:List Int):differD l l=0:=by
 unfold differD
 simp [difN]
end Go.Proofs.YthbfhgenkhkpfaaGreat
