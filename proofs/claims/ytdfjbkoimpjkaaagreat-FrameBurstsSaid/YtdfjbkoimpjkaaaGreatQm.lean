/- The reference: are these entries of a frame? -/
import Derived.Test.YtdfjbkoimpjkaaaGreatCt6
import Derived.Test.YtdfjbkoimpjkaaaGreatPn
import Derived.Test.YtdfjbkoimpjkaaaGreatFx
namespace Go.Proofs.YtdfjbkoimpjkaaaGreat
open Go Go.RowKit
set_option linter.unusedVariables false
set_option linter.unusedSimpArgs false

def entsF (l:List Ent):Bool:=decide ((l.length:Int)≤8)&&l.all okE
end Go.Proofs.YtdfjbkoimpjkaaaGreat
