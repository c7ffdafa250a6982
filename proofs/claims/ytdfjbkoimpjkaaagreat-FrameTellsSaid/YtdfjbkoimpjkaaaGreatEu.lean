import Derived.Test.YtdfjbkoimpjkaaaGreatEt
namespace Go.Proofs.YtdfjbkoimpjkaaaGreat
open Go Go.RowKit
set_option linter.unusedVariables false
set_option linter.unusedSimpArgs false

def sma (a:Arena):Prop:=sml a.slots∧a.slots.length≤9223372036854775807∧a.idx.length≤9223372036854775807
end Go.Proofs.YtdfjbkoimpjkaaaGreat