/- The arguments of a row, opened: what lies in memory is data; and a law's contract as the row asks for it. -/
import Derived.Test.YtdojgmmpcdbeoaaSl
import Derived.ProofKit
import Derived.WalkKit
import Derived.OpenShut
import Derived.ChangeOld
import Derived.Below
import Derived.Deep.Slices
namespace Go.Proofs.Ytdojgmmpcdbeoaa
open Go Go.ChangeShapes Go.WideShapes Go.ChangeAt Go.RowKit Go.Deep
set_option linter.unusedVariables false
set_option linter.unusedSimpArgs false

/-- What is read at type t is of kind k, and G holds of it. -/
def Opens {T : Type} (P : Program) (t : TypeId) (k : Kd T) (G : T → Prop) : Prop :=
  ∀ (H : Type) (enc : TypeId × Value → H) (w : World) (base : Nat) (spare : Nat → Bool) (held : Bool) (fuel : Nat) (cs : List Value) (x : DataW H × List MemPlace),
    DataW.trod enc P w base spare held fuel t cs = some x → ∃ d, cs.length = k.n ∧ G d ∧ Stb [] w (fun w => k.r w cs d)
def inK (k:IntKind) (n:Int):Prop:=(Lit.int k n).wf=true
section
variable {P : Program} {t e : TypeId}
end

/-- A law's contract, as the row asks for it. -/
theorem law_any {P : Program} {f : FuncId} {args : Array Value} {W : World} (h : Calls P f args W (Ret fun v w' => Ext W w' ∧ v = .bool true)) : Calls P f args W fun e w' => e = .returned (.bool true) ∧ Below W.heap.size W w' :=
  h.mono fun e w' ⟨v, he, hx, hv⟩ => by subst hv; exact ⟨he, hx.below⟩
theorem lt_nil (W:World):Lt [] W:=fun m hm=>by cases hm
end Go.Proofs.Ytdojgmmpcdbeoaa
