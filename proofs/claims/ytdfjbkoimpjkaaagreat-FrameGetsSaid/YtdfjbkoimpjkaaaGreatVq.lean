/- What is known of a frame that a law is given. -/
import Derived.Test.YtdfjbkoimpjkaaaGreatVn
import Derived.Test.YtdfjbkoimpjkaaaGreatVh
import Derived.Test.YtdfjbkoimpjkaaaGreatVa
import Derived.Test.YtdfjbkoimpjkaaaGreatHn
import Derived.Test.YtdfjbkoimpjkaaaGreatSf
import Derived.Test.YtdfjbkoimpjkaaaGreatEs
import Derived.Test.YtdfjbkoimpjkaaaGreatBh
import Derived.Test.YtdfjbkoimpjkaaaGreatPi
namespace Go.Proofs.YtdfjbkoimpjkaaaGreat
open Go Go.RowKit
set_option linter.unusedVariables false
set_option linter.unusedSimpArgs false

theorem same_self (f:Frm):sameF f f=true:=by unfold sameF; simp [allE_self]
theorem getFr_sums (s:Str):(getFr s).1.sums.length=4:=by
 unfold getFr
 cases ((openC s).2 != 0)||badF (openC s).1 with
 | true=>rfl
 | false=>exact getD_len _
end Go.Proofs.YtdfjbkoimpjkaaaGreat
