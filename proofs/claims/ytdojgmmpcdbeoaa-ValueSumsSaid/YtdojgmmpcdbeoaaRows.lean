/-
  No cell of these rows narrows 'for every input' (looked for: loops, veiled, ifaces, maps, wideKeys, modest, calm, conditions, laid).
  DERIVED. THE GIVEN ROWS OF THIS SEAT. 7 by the template 'for every input the law returns true; each argument reads behind the call as it read before'; 0 by the template 'total and deterministic' (their statements: YtdojgmmpcdbeoaaTotals.lean).
  GIVEN WITH THE SEED: the statements are not yours to turn. If you find one false, say at which input.
  Laid BY PROGRAM, IN A SANDBOX (cutbox-rows.mjs): the forced cells as the released guide's own fill.sh prints them over the translation c98cdb26a10563f0… (all of the seat's roots in one cut). By AI agents, Wed Nov 11 2026. No macro, syntax, notation, axiom, sorry.
-/
import Derived.Test.YtdojgmmpcdbeoaaChecked
import GoSem.Claim
import GoSem.ClaimJoined
import GoSem.ClaimMapViews
import Derived.JoinedTies
import Derived.KernelRfl
namespace Go.Proofs.Ytdojgmmpcdbeoaa
/- THE CELL 'sum', in the pinned program and in every row, IS THE sha256 OF THE DUMP (.gsa) THAT YtdojgmmpcdbeoaaProg.lean LOADS. Nothing in Lean hashes anything: it is a label: what it is worth is what the hold of that sum in a sandbox is worth. -/
noncomputable def Try.pinned : Pinned := { name := "ytdojgmmpcdbeoaa", sum := "c98cdb26a10563f013923862e05f9b940d78986f30d2092dacd536c9f313eb5a", checked := Try.checked }
namespace Rows
def none {H : Type} : Left H := { results := [], args := [] }

/-- 'ouroboroslaw06.ValueTells': WHATEVER THE INPUT: true; the input reads as it did. -/
def valueTellsSpec : ChangeSpec := { name := "valueTells", fn := fun _ => fun
  | [d1, d2, d3] => { results := [.lit (.bool true)], args := [d1, d2, d3] }
  | _ => none }
def valueTellsRow : OpenClaim := { program := "ytdojgmmpcdbeoaa", sum := "c98cdb26a10563f013923862e05f9b940d78986f30d2092dacd536c9f313eb5a", func := "ouroboros/ouroboroslaw06.ValueTells", spec := "valueTells", unfollowed := true, recurses := true, apart := false }
def ValueTellsSaid : Prop := valueTellsRow.holds Try.pinned (OpenSpec.ofChange valueTellsSpec)

/-- ITS FALSE NEIGHBOUR: 'it returns false'. Refute it at one input. -/
def valueTellsWrong : ChangeSpec := { name := "valueTells", fn := fun _ => fun
  | [d1, d2, d3] => { results := [.lit (.bool false)], args := [d1, d2, d3] }
  | _ => none }
def ValueTellsWrongFalsely : Prop := valueTellsRow.holds Try.pinned (OpenSpec.ofChange valueTellsWrong)

/-- 'ouroboroslaw06.ValueJoins': WHATEVER THE INPUT: true; the input reads as it did. -/
def valueJoinsSpec : ChangeSpec := { name := "valueJoins", fn := fun _ => fun
  | [d1, d2, d3] => { results := [.lit (.bool true)], args := [d1, d2, d3] }
  | _ => none }
def valueJoinsRow : OpenClaim := { program := "ytdojgmmpcdbeoaa", sum := "c98cdb26a10563f013923862e05f9b940d78986f30d2092dacd536c9f313eb5a", func := "ouroboros/ouroboroslaw06.ValueJoins", spec := "valueJoins", unfollowed := true, recurses := true, apart := false }
def ValueJoinsSaid : Prop := valueJoinsRow.holds Try.pinned (OpenSpec.ofChange valueJoinsSpec)

/-- ITS FALSE NEIGHBOUR: 'it returns false'. Refute it at one input. -/
def valueJoinsWrong : ChangeSpec := { name := "valueJoins", fn := fun _ => fun
  | [d1, d2, d3] => { results := [.lit (.bool false)], args := [d1, d2, d3] }
  | _ => none }
def ValueJoinsWrongFalsely : Prop := valueJoinsRow.holds Try.pinned (OpenSpec.ofChange valueJoinsWrong)

/-- 'ouroboroslaw06.ValueLeast': WHATEVER THE INPUT: true; the input reads as it did. -/
def valueLeastSpec : ChangeSpec := { name := "valueLeast", fn := fun _ => fun
  | [d1, d2, d3] => { results := [.lit (.bool true)], args := [d1, d2, d3] }
  | _ => none }
def valueLeastRow : OpenClaim := { program := "ytdojgmmpcdbeoaa", sum := "c98cdb26a10563f013923862e05f9b940d78986f30d2092dacd536c9f313eb5a", func := "ouroboros/ouroboroslaw06.ValueLeast", spec := "valueLeast", unfollowed := true, recurses := true, apart := false }
def ValueLeastSaid : Prop := valueLeastRow.holds Try.pinned (OpenSpec.ofChange valueLeastSpec)

/-- ITS FALSE NEIGHBOUR: 'it returns false'. Refute it at one input. -/
def valueLeastWrong : ChangeSpec := { name := "valueLeast", fn := fun _ => fun
  | [d1, d2, d3] => { results := [.lit (.bool false)], args := [d1, d2, d3] }
  | _ => none }
def ValueLeastWrongFalsely : Prop := valueLeastRow.holds Try.pinned (OpenSpec.ofChange valueLeastWrong)

/-- 'ouroboroslaw06.ValueOrder': WHATEVER THE INPUT: true; the input reads as it did. -/
def valueOrderSpec : ChangeSpec := { name := "valueOrder", fn := fun _ => fun
  | [d1, d2, d3] => { results := [.lit (.bool true)], args := [d1, d2, d3] }
  | _ => none }
def valueOrderRow : OpenClaim := { program := "ytdojgmmpcdbeoaa", sum := "c98cdb26a10563f013923862e05f9b940d78986f30d2092dacd536c9f313eb5a", func := "ouroboros/ouroboroslaw06.ValueOrder", spec := "valueOrder", unfollowed := true, recurses := true, apart := false }
def ValueOrderSaid : Prop := valueOrderRow.holds Try.pinned (OpenSpec.ofChange valueOrderSpec)

/-- ITS FALSE NEIGHBOUR: 'it returns false'. Refute it at one input. -/
def valueOrderWrong : ChangeSpec := { name := "valueOrder", fn := fun _ => fun
  | [d1, d2, d3] => { results := [.lit (.bool false)], args := [d1, d2, d3] }
  | _ => none }
def ValueOrderWrongFalsely : Prop := valueOrderRow.holds Try.pinned (OpenSpec.ofChange valueOrderWrong)

/-- 'ouroboroslaw06.ValueSums': WHATEVER THE INPUT: true; the input reads as it did. -/
def valueSumsSpec : ChangeSpec := { name := "valueSums", fn := fun _ => fun
  | [d1, d2, d3] => { results := [.lit (.bool true)], args := [d1, d2, d3] }
  | _ => none }
def valueSumsRow : OpenClaim := { program := "ytdojgmmpcdbeoaa", sum := "c98cdb26a10563f013923862e05f9b940d78986f30d2092dacd536c9f313eb5a", func := "ouroboros/ouroboroslaw06.ValueSums", spec := "valueSums", unfollowed := true, recurses := true, apart := false }
def ValueSumsSaid : Prop := valueSumsRow.holds Try.pinned (OpenSpec.ofChange valueSumsSpec)

/-- ITS FALSE NEIGHBOUR: 'it returns false'. Refute it at one input. -/
def valueSumsWrong : ChangeSpec := { name := "valueSums", fn := fun _ => fun
  | [d1, d2, d3] => { results := [.lit (.bool false)], args := [d1, d2, d3] }
  | _ => none }
def ValueSumsWrongFalsely : Prop := valueSumsRow.holds Try.pinned (OpenSpec.ofChange valueSumsWrong)

/-- 'ouroboroslaw06.ValueLater': WHATEVER THE INPUT: true; the input reads as it did. -/
def valueLaterSpec : ChangeSpec := { name := "valueLater", fn := fun _ => fun
  | [d1, d2] => { results := [.lit (.bool true)], args := [d1, d2] }
  | _ => none }
def valueLaterRow : OpenClaim := { program := "ytdojgmmpcdbeoaa", sum := "c98cdb26a10563f013923862e05f9b940d78986f30d2092dacd536c9f313eb5a", func := "ouroboros/ouroboroslaw06.ValueLater", spec := "valueLater", unfollowed := true, recurses := true, apart := false }
def ValueLaterSaid : Prop := valueLaterRow.holds Try.pinned (OpenSpec.ofChange valueLaterSpec)

/-- ITS FALSE NEIGHBOUR: 'it returns false'. Refute it at one input. -/
def valueLaterWrong : ChangeSpec := { name := "valueLater", fn := fun _ => fun
  | [d1, d2] => { results := [.lit (.bool false)], args := [d1, d2] }
  | _ => none }
def ValueLaterWrongFalsely : Prop := valueLaterRow.holds Try.pinned (OpenSpec.ofChange valueLaterWrong)

/-- 'ouroboroslaw06.ValueFlags': WHATEVER THE INPUT: true; the input reads as it did. -/
def valueFlagsSpec : ChangeSpec := { name := "valueFlags", fn := fun _ => fun
  | [d1, d2, d3, d4] => { results := [.lit (.bool true)], args := [d1, d2, d3, d4] }
  | _ => none }
def valueFlagsRow : OpenClaim := { program := "ytdojgmmpcdbeoaa", sum := "c98cdb26a10563f013923862e05f9b940d78986f30d2092dacd536c9f313eb5a", func := "ouroboros/ouroboroslaw06.ValueFlags", spec := "valueFlags", unfollowed := true, recurses := true, apart := false }
def ValueFlagsSaid : Prop := valueFlagsRow.holds Try.pinned (OpenSpec.ofChange valueFlagsSpec)

/-- ITS FALSE NEIGHBOUR: 'it returns false'. Refute it at one input. -/
def valueFlagsWrong : ChangeSpec := { name := "valueFlags", fn := fun _ => fun
  | [d1, d2, d3, d4] => { results := [.lit (.bool false)], args := [d1, d2, d3, d4] }
  | _ => none }
def ValueFlagsWrongFalsely : Prop := valueFlagsRow.holds Try.pinned (OpenSpec.ofChange valueFlagsWrong)

/- THE SECOND FORM. 'bulk': how many values and letters a reading holds, each counted each time it is reached (what is shared counts as often as it is met; a slice's spare places count too). A statement '..UptoSaid' is the law's where the arguments, and the package variables that the reading takes, are together of bulk at most 1048576: NARROWER than '..Said'. Prove '..Said' where nothing that the law and all that it calls make is longer than what came in: it says more and counts as full. Else prove '..UptoSaid'. A law counts once. -/
mutual
def uptoBulk {H : Type} : DataW H → Nat
  | .lit (.string bytes) => bytes.length + 1
  | .lit _ => 1
  | .nil => 1
  | .ptr d => uptoBulk d + 1
  | .slice elems spare => uptoBulkAll elems + uptoBulkAll spare + 1
  | .agg parts => uptoBulkAll parts + 1
  | .iface _ d => uptoBulk d + 1
  | .map entries => uptoBulkEntries entries + 1
  | .held _ => 1
def uptoBulkAll {H : Type} : List (DataW H) → Nat
  | [] => 0
  | d :: r => uptoBulk d + uptoBulkAll r
def uptoBulkEntries {H : Type} : List (Lit × DataW H) → Nat
  | [] => 0
  | x :: r => uptoBulkEntry x + uptoBulkEntries r
def uptoBulkEntry {H : Type} : Lit × DataW H → Nat
  | (.string bytes, d) => bytes.length + uptoBulk d + 1
  | (_, d) => uptoBulk d + 1
 end
def uptoSmall : (H : Type) → List (DataW H) → Bool := fun _ ds => decide (uptoBulkAll ds ≤ 1048576)
def OpenSpec.upto (s : _root_.Go.ChangeSpec) : _root_.Go.OpenSpec := { _root_.Go.OpenSpec.ofChange s with cond := some uptoSmall }

/-- 'ouroboroslaw06.ValueTells', WHERE WHAT IT READS IS OF BULK AT MOST 1048576: true; the input reads as it did. -/
def valueTellsUptoRow : OpenClaim := { program := "ytdojgmmpcdbeoaa", sum := "c98cdb26a10563f013923862e05f9b940d78986f30d2092dacd536c9f313eb5a", func := "ouroboros/ouroboroslaw06.ValueTells", spec := "valueTells", unfollowed := true, recurses := true, apart := false, narrowed := true }
def ValueTellsUptoSaid : Prop := valueTellsUptoRow.holds Try.pinned (OpenSpec.upto valueTellsSpec)

/-- 'ouroboroslaw06.ValueJoins', WHERE WHAT IT READS IS OF BULK AT MOST 1048576: true; the input reads as it did. -/
def valueJoinsUptoRow : OpenClaim := { program := "ytdojgmmpcdbeoaa", sum := "c98cdb26a10563f013923862e05f9b940d78986f30d2092dacd536c9f313eb5a", func := "ouroboros/ouroboroslaw06.ValueJoins", spec := "valueJoins", unfollowed := true, recurses := true, apart := false, narrowed := true }
def ValueJoinsUptoSaid : Prop := valueJoinsUptoRow.holds Try.pinned (OpenSpec.upto valueJoinsSpec)

/-- 'ouroboroslaw06.ValueLeast', WHERE WHAT IT READS IS OF BULK AT MOST 1048576: true; the input reads as it did. -/
def valueLeastUptoRow : OpenClaim := { program := "ytdojgmmpcdbeoaa", sum := "c98cdb26a10563f013923862e05f9b940d78986f30d2092dacd536c9f313eb5a", func := "ouroboros/ouroboroslaw06.ValueLeast", spec := "valueLeast", unfollowed := true, recurses := true, apart := false, narrowed := true }
def ValueLeastUptoSaid : Prop := valueLeastUptoRow.holds Try.pinned (OpenSpec.upto valueLeastSpec)

/-- 'ouroboroslaw06.ValueOrder', WHERE WHAT IT READS IS OF BULK AT MOST 1048576: true; the input reads as it did. -/
def valueOrderUptoRow : OpenClaim := { program := "ytdojgmmpcdbeoaa", sum := "c98cdb26a10563f013923862e05f9b940d78986f30d2092dacd536c9f313eb5a", func := "ouroboros/ouroboroslaw06.ValueOrder", spec := "valueOrder", unfollowed := true, recurses := true, apart := false, narrowed := true }
def ValueOrderUptoSaid : Prop := valueOrderUptoRow.holds Try.pinned (OpenSpec.upto valueOrderSpec)

/-- 'ouroboroslaw06.ValueSums', WHERE WHAT IT READS IS OF BULK AT MOST 1048576: true; the input reads as it did. -/
def valueSumsUptoRow : OpenClaim := { program := "ytdojgmmpcdbeoaa", sum := "c98cdb26a10563f013923862e05f9b940d78986f30d2092dacd536c9f313eb5a", func := "ouroboros/ouroboroslaw06.ValueSums", spec := "valueSums", unfollowed := true, recurses := true, apart := false, narrowed := true }
def ValueSumsUptoSaid : Prop := valueSumsUptoRow.holds Try.pinned (OpenSpec.upto valueSumsSpec)

/-- 'ouroboroslaw06.ValueLater', WHERE WHAT IT READS IS OF BULK AT MOST 1048576: true; the input reads as it did. -/
def valueLaterUptoRow : OpenClaim := { program := "ytdojgmmpcdbeoaa", sum := "c98cdb26a10563f013923862e05f9b940d78986f30d2092dacd536c9f313eb5a", func := "ouroboros/ouroboroslaw06.ValueLater", spec := "valueLater", unfollowed := true, recurses := true, apart := false, narrowed := true }
def ValueLaterUptoSaid : Prop := valueLaterUptoRow.holds Try.pinned (OpenSpec.upto valueLaterSpec)

/-- 'ouroboroslaw06.ValueFlags', WHERE WHAT IT READS IS OF BULK AT MOST 1048576: true; the input reads as it did. -/
def valueFlagsUptoRow : OpenClaim := { program := "ytdojgmmpcdbeoaa", sum := "c98cdb26a10563f013923862e05f9b940d78986f30d2092dacd536c9f313eb5a", func := "ouroboros/ouroboroslaw06.ValueFlags", spec := "valueFlags", unfollowed := true, recurses := true, apart := false, narrowed := true }
def ValueFlagsUptoSaid : Prop := valueFlagsUptoRow.holds Try.pinned (OpenSpec.upto valueFlagsSpec)

end Rows
end Go.Proofs.Ytdojgmmpcdbeoaa
