/- What is known of a frame that a law is given. -/
import Derived.Test.YtdfjbkoimpjkaaaGreatVn
import Derived.Test.YtdfjbkoimpjkaaaGreatVh
import Derived.Test.YtdfjbkoimpjkaaaGreatVa
import Derived.Test.YtdfjbkoimpjkaaaGreatHk
import Derived.Test.YtdfjbkoimpjkaaaGreatSf4
namespace Go.Proofs.YtdfjbkoimpjkaaaGreat
open Go Go.RowKit
set_option linter.unusedVariables false
set_option linter.unusedSimpArgs false

theorem gs_sml {l:List Ent} (h:Gs_api_Entry l):sml l:=⟨h.1,fun e he=>⟨(h.2 e he).2.2.2.1,(h.2 e he).2.2.2.2⟩⟩
theorem gs_wfl {l:List Ent} (h:Gs_api_Entry l):wfl l:=fun e he=>(h.2 e he).2.1
theorem ents12 {l:List Ent} (h:entriesB l 12=true):l.length≤1000000:=by
 have:(l.length:Int)≤12:=by unfold entriesB at h; simpa using andL h
 omega
theorem max4 {l:List Int} (h:∀ n∈l,inI n):maxS l:=fun n hn=>by have:=h n hn; unfold inI at this; omega
end Go.Proofs.YtdfjbkoimpjkaaaGreat
