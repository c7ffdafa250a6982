/- What is known of a frame that a law is given. -/
import Derived.Test.YtdfjbkoimpjkaaaGreatVn
import Derived.Test.YtdfjbkoimpjkaaaGreatVp
import Derived.Test.YtdfjbkoimpjkaaaGreatSf6
namespace Go.Proofs.YtdfjbkoimpjkaaaGreat
open Go Go.RowKit
set_option linter.unusedVariables false
set_option linter.unusedSimpArgs false

theorem gs_sml {l:List Ent} (h:Gs_api_Entry l):sml l:=⟨h.1,fun e he=>⟨(h.2 e he).2.2.2.1,(h.2 e he).2.2.2.2⟩⟩
theorem gs_inU {l:List Ent} (h:Gs_api_Entry l):∀ e∈l,inU e.val.flags:=fun e he=>(h.2 e he).2.1.flags
end Go.Proofs.YtdfjbkoimpjkaaaGreat
