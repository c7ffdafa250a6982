/- octet.Xor: the bits that just one of two texts has. -/
import Derived.Test.YtdfjbkoimpjkaaaGreatVe
import Derived.Test.YtdfjbkoimpjkaaaGreatVa
import Derived.Test.YtdfjbkoimpjkaaaGreatBl
import Derived.Lib.ConvBytes
import Derived.Laws.IdiomStrings
namespace Go.Proofs.YtdfjbkoimpjkaaaGreat
open Go Go.RowKit
set_option linter.unusedVariables false
set_option linter.unusedSimpArgs false

/-- The bytes s at g, in room for c. -/
def XB (g c : Nat) (s : Str) (w : World) : Prop := ∃ cur : Array Value, w.heap[g]? = some (.cells cur 5 (cur.size, cur.size + 1)) ∧ cur.size = c ∧ s.length ≤ c ∧ ∀ (j : Nat) (b : UInt8), s[j]? = some b → cur[j]? = some (Value.int .u8 (b.toNat : Int))
theorem XB.ex {g c:Nat} {s:Str} {w w':World} (h:XB g c s w) (f:Ext w w'):XB g c s w':=by
 obtain ⟨cur,h1,h2⟩:=h
 exact ⟨cur,(f.block g (Array.getElem?_eq_some_iff.1 h1).1 (by simp)).trans h1,h2⟩
theorem XB.cell {g c j:Nat} {s:Str} {w:World} {b:UInt8} (h:XB g c s w) (hj:s[j]?=some b):w.cell? ⟨g,j,none⟩=some (.int .u8 (b.toNat:Int)):=by
 obtain ⟨cur,h1,h2,h3,h4⟩:=h
 simp [World.cell?,h1,h4 j b hj]
section
variable {P : Program} {r : Option Nat} {N : Nat} {ops : Array Oper} {Q : Post} {rest : List Oper} {ρ : Env} {ds : List Deferred} {w : World} {ty : TypeId} {pos : String} {after : Array Edge} {g0 : Option (Nat × Bool)}
end
end Go.Proofs.YtdfjbkoimpjkaaaGreat
