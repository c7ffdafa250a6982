import Derived.Test.YtdfjbkoimpjkaaaGreatEu
namespace Go.Proofs.YtdfjbkoimpjkaaaGreat
open Go Go.RowKit
set_option linter.unusedVariables false
set_option linter.unusedSimpArgs false

def wfl (l:List Ent):Prop:=∀ e∈l,WfV e.val
end Go.Proofs.YtdfjbkoimpjkaaaGreat