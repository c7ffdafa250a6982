import Derived.Test.YtdfjbkoimpjkaaaGreatSl
import Derived.ProofKit
import Derived.WalkKit
import Derived.OpenShut
import Derived.ChangeOld
import Derived.Below
import Derived.Deep.Slices
namespace Go.Proofs.YtdfjbkoimpjkaaaGreat
open Go Go.ChangeShapes Go.WideShapes Go.ChangeAt Go.RowKit Go.Deep
set_option linter.unusedVariables false
set_option linter.unusedSimpArgs false

section
variable {P : Program} {t e : TypeId}
def shortL {T:Type} (l:List T):Prop:=l.length≤9223372036854775807
end

/-- A law's contract, as the row asks for it. -/
theorem law_any {P : Program} {f : FuncId} {args : Array Value} {W : World} (h : Calls P f args W (Ret fun v w' => Ext W w' ∧ v = .bool true)) : Calls P f args W fun e w' => e = .returned (.bool true) ∧ Below W.heap.size W w' :=
  h.mono fun e w' ⟨v, he, hx, hv⟩ => by subst hv; exact ⟨he, hx.below⟩
theorem lt_nil (W:World):Lt [] W:=fun m hm=>by cases hm
end Go.Proofs.YtdfjbkoimpjkaaaGreat