/- Push in plain Lean: what each function comes to. -/
import Derived.Test.YtdfjbkoimpjkaaaGreatPm
namespace Go.Proofs.YtdfjbkoimpjkaaaGreat
open Go Go.RowKit
set_option linter.unusedVariables false
set_option linter.unusedSimpArgs false

def frm0:Frm:=⟨(0:Int),(0:Int),(0:Int),[(0:Int),(0:Int),(0:Int),(0:Int)],([]:List Ent)⟩
end Go.Proofs.YtdfjbkoimpjkaaaGreat
