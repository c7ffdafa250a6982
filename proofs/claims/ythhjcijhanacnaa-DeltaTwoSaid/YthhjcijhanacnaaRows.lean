/-
  No cell of these rows narrows 'for every input' (looked for: loops, veiled, ifaces, maps, wideKeys, modest, calm, conditions, laid).
  DERIVED. THE GIVEN ROWS OF THIS SEAT. 4 by the template 'for every input the law returns true; each argument reads behind the call as it read before'; 0 by the template 'total and deterministic' (their statements: YthhjcijhanacnaaTotals.lean).
  GIVEN WITH THE SEED: the statements are not yours to turn. If you find one false, say at which input.
  Laid BY PROGRAM, IN A SANDBOX (cutbox-rows.mjs): the forced cells as the released guide's own fill.sh prints them over the translation 3e77a921842de115… (all of the seat's roots in one cut). By AI agents, Wed Nov 11 2026. No macro, syntax, notation, axiom, sorry.
-/
import Derived.Test.YthhjcijhanacnaaChecked
import GoSem.Claim
import GoSem.ClaimJoined
import GoSem.ClaimMapViews
import Derived.JoinedTies
import Derived.KernelRfl
namespace Go.Proofs.Ythhjcijhanacnaa
/- THE CELL 'sum', in the pinned program and in every row, IS THE sha256 OF THE DUMP (.gsa) THAT YthhjcijhanacnaaProg.lean LOADS. Nothing in Lean hashes anything: it is a label: what it is worth is what the hold of that sum in a sandbox is worth. -/
noncomputable def Try.pinned : Pinned := { name := "ythhjcijhanacnaa", sum := "3e77a921842de115c1b36e7aeba4826ca240d98dfee280c2d23deff2168c619f", checked := Try.checked }
namespace Rows
def none {H : Type} : Left H := { results := [], args := [] }

/-- 'ouroboroslaw09.DeltaWrites': WHATEVER THE INPUT: true; the input reads as it did. -/
def deltaWritesSpec : ChangeSpec := { name := "deltaWrites", fn := fun _ => fun
  | [d1, d2, d3, d4, d5, d6] => { results := [.lit (.bool true)], args := [d1, d2, d3, d4, d5, d6] }
  | _ => none }
def deltaWritesRow : OpenClaim := { program := "ythhjcijhanacnaa", sum := "3e77a921842de115c1b36e7aeba4826ca240d98dfee280c2d23deff2168c619f", func := "ouroboros/ouroboroslaw09.DeltaWrites", spec := "deltaWrites", unfollowed := true, recurses := true, apart := false }
def DeltaWritesSaid : Prop := deltaWritesRow.holds Try.pinned (OpenSpec.ofChange deltaWritesSpec)

/-- ITS FALSE NEIGHBOUR: 'it returns false'. Refute it at one input. -/
def deltaWritesWrong : ChangeSpec := { name := "deltaWrites", fn := fun _ => fun
  | [d1, d2, d3, d4, d5, d6] => { results := [.lit (.bool false)], args := [d1, d2, d3, d4, d5, d6] }
  | _ => none }
def DeltaWritesWrongFalsely : Prop := deltaWritesRow.holds Try.pinned (OpenSpec.ofChange deltaWritesWrong)

/-- 'ouroboroslaw09.DeltaRefuses': WHATEVER THE INPUT: true; the input reads as it did. -/
def deltaRefusesSpec : ChangeSpec := { name := "deltaRefuses", fn := fun _ => fun
  | [d1, d2, d3, d4] => { results := [.lit (.bool true)], args := [d1, d2, d3, d4] }
  | _ => none }
def deltaRefusesRow : OpenClaim := { program := "ythhjcijhanacnaa", sum := "3e77a921842de115c1b36e7aeba4826ca240d98dfee280c2d23deff2168c619f", func := "ouroboros/ouroboroslaw09.DeltaRefuses", spec := "deltaRefuses", unfollowed := true, recurses := true, apart := false }
def DeltaRefusesSaid : Prop := deltaRefusesRow.holds Try.pinned (OpenSpec.ofChange deltaRefusesSpec)

/-- ITS FALSE NEIGHBOUR: 'it returns false'. Refute it at one input. -/
def deltaRefusesWrong : ChangeSpec := { name := "deltaRefuses", fn := fun _ => fun
  | [d1, d2, d3, d4] => { results := [.lit (.bool false)], args := [d1, d2, d3, d4] }
  | _ => none }
def DeltaRefusesWrongFalsely : Prop := deltaRefusesRow.holds Try.pinned (OpenSpec.ofChange deltaRefusesWrong)

/-- 'ouroboroslaw09.DeltaScans': WHATEVER THE INPUT: true; the input reads as it did. -/
def deltaScansSpec : ChangeSpec := { name := "deltaScans", fn := fun _ => fun
  | [d] => { results := [.lit (.bool true)], args := [d] }
  | _ => none }
def deltaScansRow : OpenClaim := { program := "ythhjcijhanacnaa", sum := "3e77a921842de115c1b36e7aeba4826ca240d98dfee280c2d23deff2168c619f", func := "ouroboros/ouroboroslaw09.DeltaScans", spec := "deltaScans", unfollowed := true, recurses := true, apart := false }
def DeltaScansSaid : Prop := deltaScansRow.holds Try.pinned (OpenSpec.ofChange deltaScansSpec)

/-- ITS FALSE NEIGHBOUR: 'it returns false'. Refute it at one input. -/
def deltaScansWrong : ChangeSpec := { name := "deltaScans", fn := fun _ => fun
  | [d] => { results := [.lit (.bool false)], args := [d] }
  | _ => none }
def DeltaScansWrongFalsely : Prop := deltaScansRow.holds Try.pinned (OpenSpec.ofChange deltaScansWrong)

/-- 'ouroboroslaw09.DeltaTwo': WHATEVER THE INPUT: true; the input reads as it did. -/
def deltaTwoSpec : ChangeSpec := { name := "deltaTwo", fn := fun _ => fun
  | [d1, d2, d3, d4, d5, d6, d7, d8] => { results := [.lit (.bool true)], args := [d1, d2, d3, d4, d5, d6, d7, d8] }
  | _ => none }
def deltaTwoRow : OpenClaim := { program := "ythhjcijhanacnaa", sum := "3e77a921842de115c1b36e7aeba4826ca240d98dfee280c2d23deff2168c619f", func := "ouroboros/ouroboroslaw09.DeltaTwo", spec := "deltaTwo", unfollowed := true, recurses := true, apart := false }
def DeltaTwoSaid : Prop := deltaTwoRow.holds Try.pinned (OpenSpec.ofChange deltaTwoSpec)

/-- ITS FALSE NEIGHBOUR: 'it returns false'. Refute it at one input. -/
def deltaTwoWrong : ChangeSpec := { name := "deltaTwo", fn := fun _ => fun
  | [d1, d2, d3, d4, d5, d6, d7, d8] => { results := [.lit (.bool false)], args := [d1, d2, d3, d4, d5, d6, d7, d8] }
  | _ => none }
def DeltaTwoWrongFalsely : Prop := deltaTwoRow.holds Try.pinned (OpenSpec.ofChange deltaTwoWrong)

/- THE SECOND FORM. 'bulk': how many values and letters a reading holds, each counted each time it is reached (what is shared counts as often as it is met; a slice's spare places count too). A statement '..UptoSaid' is the law's where the arguments, and the package variables that the reading takes, are together of bulk at most 1048576: NARROWER than '..Said'. Prove '..Said' where nothing that the law and all that it calls make is longer than what came in: it says more and counts as full. Else prove '..UptoSaid'. A law counts once. -/
mutual
def uptoBulk {H : Type} : DataW H → Nat
  | .lit (.string bytes) => bytes.length + 1
  | .lit _ => 1
  | .nil => 1
  | .ptr d => uptoBulk d + 1
  | .slice elems spare => uptoBulkAll elems + uptoBulkAll spare + 1
  | .agg parts => uptoBulkAll parts + 1
  | .iface _ d => uptoBulk d + 1
  | .map entries => uptoBulkEntries entries + 1
  | .held _ => 1
def uptoBulkAll {H : Type} : List (DataW H) → Nat
  | [] => 0
  | d :: r => uptoBulk d + uptoBulkAll r
def uptoBulkEntries {H : Type} : List (Lit × DataW H) → Nat
  | [] => 0
  | x :: r => uptoBulkEntry x + uptoBulkEntries r
def uptoBulkEntry {H : Type} : Lit × DataW H → Nat
  | (.string bytes, d) => bytes.length + uptoBulk d + 1
  | (_, d) => uptoBulk d + 1
 end
def uptoSmall : (H : Type) → List (DataW H) → Bool := fun _ ds => decide (uptoBulkAll ds ≤ 1048576)
def OpenSpec.upto (s : _root_.Go.ChangeSpec) : _root_.Go.OpenSpec := { _root_.Go.OpenSpec.ofChange s with cond := some uptoSmall }

/-- 'ouroboroslaw09.DeltaWrites', WHERE WHAT IT READS IS OF BULK AT MOST 1048576: true; the input reads as it did. -/
def deltaWritesUptoRow : OpenClaim := { program := "ythhjcijhanacnaa", sum := "3e77a921842de115c1b36e7aeba4826ca240d98dfee280c2d23deff2168c619f", func := "ouroboros/ouroboroslaw09.DeltaWrites", spec := "deltaWrites", unfollowed := true, recurses := true, apart := false, narrowed := true }
def DeltaWritesUptoSaid : Prop := deltaWritesUptoRow.holds Try.pinned (OpenSpec.upto deltaWritesSpec)

/-- 'ouroboroslaw09.DeltaRefuses', WHERE WHAT IT READS IS OF BULK AT MOST 1048576: true; the input reads as it did. -/
def deltaRefusesUptoRow : OpenClaim := { program := "ythhjcijhanacnaa", sum := "3e77a921842de115c1b36e7aeba4826ca240d98dfee280c2d23deff2168c619f", func := "ouroboros/ouroboroslaw09.DeltaRefuses", spec := "deltaRefuses", unfollowed := true, recurses := true, apart := false, narrowed := true }
def DeltaRefusesUptoSaid : Prop := deltaRefusesUptoRow.holds Try.pinned (OpenSpec.upto deltaRefusesSpec)

/-- 'ouroboroslaw09.DeltaScans', WHERE WHAT IT READS IS OF BULK AT MOST 1048576: true; the input reads as it did. -/
def deltaScansUptoRow : OpenClaim := { program := "ythhjcijhanacnaa", sum := "3e77a921842de115c1b36e7aeba4826ca240d98dfee280c2d23deff2168c619f", func := "ouroboros/ouroboroslaw09.DeltaScans", spec := "deltaScans", unfollowed := true, recurses := true, apart := false, narrowed := true }
def DeltaScansUptoSaid : Prop := deltaScansUptoRow.holds Try.pinned (OpenSpec.upto deltaScansSpec)

/-- 'ouroboroslaw09.DeltaTwo', WHERE WHAT IT READS IS OF BULK AT MOST 1048576: true; the input reads as it did. -/
def deltaTwoUptoRow : OpenClaim := { program := "ythhjcijhanacnaa", sum := "3e77a921842de115c1b36e7aeba4826ca240d98dfee280c2d23deff2168c619f", func := "ouroboros/ouroboroslaw09.DeltaTwo", spec := "deltaTwo", unfollowed := true, recurses := true, apart := false, narrowed := true }
def DeltaTwoUptoSaid : Prop := deltaTwoUptoRow.holds Try.pinned (OpenSpec.upto deltaTwoSpec)

end Rows
end Go.Proofs.Ythhjcijhanacnaa
