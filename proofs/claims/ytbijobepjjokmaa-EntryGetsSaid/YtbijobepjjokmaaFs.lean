/- Buffers in plain Lean: what each function comes to. -/
import Derived.Test.YtbijobepjjokmaaCt2
import Derived.Test.YtbijobepjjokmaaD3
import Derived.Test.YtbijobepjjokmaaEu
namespace Go.Proofs.Ytbijobepjjokmaa
open Go Go.RowKit
set_option linter.unusedVariables false
set_option linter.unusedSimpArgs false

instance:DecidableEq Nm:=fun a b=>decidable_of_iff (a.kind=b.kind∧a.key=b.key) ⟨fun h=>by cases a; cases b; simp at h; simp [h],fun h=>by rw [h]; exact ⟨rfl,rfl⟩⟩
def smB (b:Buf):Prop:=b.names.length≤1000000
def smN (b:Buf):Prop:=b.names.length≤100000
end Go.Proofs.Ytbijobepjjokmaa
