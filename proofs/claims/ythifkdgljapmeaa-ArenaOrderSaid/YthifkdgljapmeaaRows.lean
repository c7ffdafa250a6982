/-
  No cell of these rows narrows 'for every input' (looked for: loops, veiled, ifaces, maps, wideKeys, modest, calm, conditions, laid).
  DERIVED. THE GIVEN ROWS OF THIS SEAT. 7 by the template 'for every input the law returns true; each argument reads behind the call as it read before'; 0 by the template 'total and deterministic' (their statements: YthifkdgljapmeaaTotals.lean).
  GIVEN WITH THE SEED: the statements are not yours to turn. If you find one false, say at which input.
  Laid BY PROGRAM, IN A SANDBOX (cutbox-rows.mjs): the forced cells as the released guide's own fill.sh prints them over the translation ca00e5ac90f14514… (all of the seat's roots in one cut). By AI agents, Wed Nov 11 2026. No macro, syntax, notation, axiom, sorry.
-/
import Derived.Test.YthifkdgljapmeaaChecked
import GoSem.Claim
import GoSem.ClaimJoined
import GoSem.ClaimMapViews
import Derived.JoinedTies
import Derived.KernelRfl
namespace Go.Proofs.Ythifkdgljapmeaa
/- THE CELL 'sum', in the pinned program and in every row, IS THE sha256 OF THE DUMP (.gsa) THAT YthifkdgljapmeaaProg.lean LOADS. Nothing in Lean hashes anything: it is a label: what it is worth is what the hold of that sum in a sandbox is worth. -/
noncomputable def Try.pinned : Pinned := { name := "ythifkdgljapmeaa", sum := "ca00e5ac90f1451403fa92dbb247ad98e24da6eaca035ef9468673d2d7b88113", checked := Try.checked }
namespace Rows
def none {H : Type} : Left H := { results := [], args := [] }

/-- 'ouroboroslaw08.ArenaTells': WHATEVER THE INPUT: true; the input reads as it did. -/
def arenaTellsSpec : ChangeSpec := { name := "arenaTells", fn := fun _ => fun
  | [d1, d2, d3, d4, d5] => { results := [.lit (.bool true)], args := [d1, d2, d3, d4, d5] }
  | _ => none }
def arenaTellsRow : OpenClaim := { program := "ythifkdgljapmeaa", sum := "ca00e5ac90f1451403fa92dbb247ad98e24da6eaca035ef9468673d2d7b88113", func := "ouroboros/ouroboroslaw08.ArenaTells", spec := "arenaTells", unfollowed := true, recurses := true, apart := false }
def ArenaTellsSaid : Prop := arenaTellsRow.holds Try.pinned (OpenSpec.ofChange arenaTellsSpec)

/-- ITS FALSE NEIGHBOUR: 'it returns false'. Refute it at one input. -/
def arenaTellsWrong : ChangeSpec := { name := "arenaTells", fn := fun _ => fun
  | [d1, d2, d3, d4, d5] => { results := [.lit (.bool false)], args := [d1, d2, d3, d4, d5] }
  | _ => none }
def ArenaTellsWrongFalsely : Prop := arenaTellsRow.holds Try.pinned (OpenSpec.ofChange arenaTellsWrong)

/-- 'ouroboroslaw08.ArenaJoins': WHATEVER THE INPUT: true; the input reads as it did. -/
def arenaJoinsSpec : ChangeSpec := { name := "arenaJoins", fn := fun _ => fun
  | [d1, d2, d3] => { results := [.lit (.bool true)], args := [d1, d2, d3] }
  | _ => none }
def arenaJoinsRow : OpenClaim := { program := "ythifkdgljapmeaa", sum := "ca00e5ac90f1451403fa92dbb247ad98e24da6eaca035ef9468673d2d7b88113", func := "ouroboros/ouroboroslaw08.ArenaJoins", spec := "arenaJoins", unfollowed := true, recurses := true, apart := false }
def ArenaJoinsSaid : Prop := arenaJoinsRow.holds Try.pinned (OpenSpec.ofChange arenaJoinsSpec)

/-- ITS FALSE NEIGHBOUR: 'it returns false'. Refute it at one input. -/
def arenaJoinsWrong : ChangeSpec := { name := "arenaJoins", fn := fun _ => fun
  | [d1, d2, d3] => { results := [.lit (.bool false)], args := [d1, d2, d3] }
  | _ => none }
def ArenaJoinsWrongFalsely : Prop := arenaJoinsRow.holds Try.pinned (OpenSpec.ofChange arenaJoinsWrong)

/-- 'ouroboroslaw08.ArenaHolds': WHATEVER THE INPUT: true; the input reads as it did. -/
def arenaHoldsSpec : ChangeSpec := { name := "arenaHolds", fn := fun _ => fun
  | [d1, d2] => { results := [.lit (.bool true)], args := [d1, d2] }
  | _ => none }
def arenaHoldsRow : OpenClaim := { program := "ythifkdgljapmeaa", sum := "ca00e5ac90f1451403fa92dbb247ad98e24da6eaca035ef9468673d2d7b88113", func := "ouroboros/ouroboroslaw08.ArenaHolds", spec := "arenaHolds", unfollowed := true, recurses := true, apart := false }
def ArenaHoldsSaid : Prop := arenaHoldsRow.holds Try.pinned (OpenSpec.ofChange arenaHoldsSpec)

/-- ITS FALSE NEIGHBOUR: 'it returns false'. Refute it at one input. -/
def arenaHoldsWrong : ChangeSpec := { name := "arenaHolds", fn := fun _ => fun
  | [d1, d2] => { results := [.lit (.bool false)], args := [d1, d2] }
  | _ => none }
def ArenaHoldsWrongFalsely : Prop := arenaHoldsRow.holds Try.pinned (OpenSpec.ofChange arenaHoldsWrong)

/-- 'ouroboroslaw08.ArenaOrder': WHATEVER THE INPUT: true; the input reads as it did. -/
def arenaOrderSpec : ChangeSpec := { name := "arenaOrder", fn := fun _ => fun
  | [d1, d2, d3] => { results := [.lit (.bool true)], args := [d1, d2, d3] }
  | _ => none }
def arenaOrderRow : OpenClaim := { program := "ythifkdgljapmeaa", sum := "ca00e5ac90f1451403fa92dbb247ad98e24da6eaca035ef9468673d2d7b88113", func := "ouroboros/ouroboroslaw08.ArenaOrder", spec := "arenaOrder", unfollowed := true, recurses := true, apart := false }
def ArenaOrderSaid : Prop := arenaOrderRow.holds Try.pinned (OpenSpec.ofChange arenaOrderSpec)

/-- ITS FALSE NEIGHBOUR: 'it returns false'. Refute it at one input. -/
def arenaOrderWrong : ChangeSpec := { name := "arenaOrder", fn := fun _ => fun
  | [d1, d2, d3] => { results := [.lit (.bool false)], args := [d1, d2, d3] }
  | _ => none }
def ArenaOrderWrongFalsely : Prop := arenaOrderRow.holds Try.pinned (OpenSpec.ofChange arenaOrderWrong)

/-- 'ouroboroslaw08.ArenaSlots': WHATEVER THE INPUT: true; the input reads as it did. -/
def arenaSlotsSpec : ChangeSpec := { name := "arenaSlots", fn := fun _ => fun
  | [d1, d2, d3] => { results := [.lit (.bool true)], args := [d1, d2, d3] }
  | _ => none }
def arenaSlotsRow : OpenClaim := { program := "ythifkdgljapmeaa", sum := "ca00e5ac90f1451403fa92dbb247ad98e24da6eaca035ef9468673d2d7b88113", func := "ouroboros/ouroboroslaw08.ArenaSlots", spec := "arenaSlots", unfollowed := true, recurses := true, apart := false }
def ArenaSlotsSaid : Prop := arenaSlotsRow.holds Try.pinned (OpenSpec.ofChange arenaSlotsSpec)

/-- ITS FALSE NEIGHBOUR: 'it returns false'. Refute it at one input. -/
def arenaSlotsWrong : ChangeSpec := { name := "arenaSlots", fn := fun _ => fun
  | [d1, d2, d3] => { results := [.lit (.bool false)], args := [d1, d2, d3] }
  | _ => none }
def ArenaSlotsWrongFalsely : Prop := arenaSlotsRow.holds Try.pinned (OpenSpec.ofChange arenaSlotsWrong)

/-- 'ouroboroslaw08.ArenaBelow': WHATEVER THE INPUT: true; the input reads as it did. -/
def arenaBelowSpec : ChangeSpec := { name := "arenaBelow", fn := fun _ => fun
  | [d1, d2, d3] => { results := [.lit (.bool true)], args := [d1, d2, d3] }
  | _ => none }
def arenaBelowRow : OpenClaim := { program := "ythifkdgljapmeaa", sum := "ca00e5ac90f1451403fa92dbb247ad98e24da6eaca035ef9468673d2d7b88113", func := "ouroboros/ouroboroslaw08.ArenaBelow", spec := "arenaBelow", unfollowed := true, recurses := true, apart := false }
def ArenaBelowSaid : Prop := arenaBelowRow.holds Try.pinned (OpenSpec.ofChange arenaBelowSpec)

/-- ITS FALSE NEIGHBOUR: 'it returns false'. Refute it at one input. -/
def arenaBelowWrong : ChangeSpec := { name := "arenaBelow", fn := fun _ => fun
  | [d1, d2, d3] => { results := [.lit (.bool false)], args := [d1, d2, d3] }
  | _ => none }
def ArenaBelowWrongFalsely : Prop := arenaBelowRow.holds Try.pinned (OpenSpec.ofChange arenaBelowWrong)

/-- 'ouroboroslaw08.ArenaFull': WHATEVER THE INPUT: true; the input reads as it did. -/
def arenaFullSpec : ChangeSpec := { name := "arenaFull", fn := fun _ => fun
  | [d1, d2] => { results := [.lit (.bool true)], args := [d1, d2] }
  | _ => none }
def arenaFullRow : OpenClaim := { program := "ythifkdgljapmeaa", sum := "ca00e5ac90f1451403fa92dbb247ad98e24da6eaca035ef9468673d2d7b88113", func := "ouroboros/ouroboroslaw08.ArenaFull", spec := "arenaFull", unfollowed := true, recurses := true, apart := false }
def ArenaFullSaid : Prop := arenaFullRow.holds Try.pinned (OpenSpec.ofChange arenaFullSpec)

/-- ITS FALSE NEIGHBOUR: 'it returns false'. Refute it at one input. -/
def arenaFullWrong : ChangeSpec := { name := "arenaFull", fn := fun _ => fun
  | [d1, d2] => { results := [.lit (.bool false)], args := [d1, d2] }
  | _ => none }
def ArenaFullWrongFalsely : Prop := arenaFullRow.holds Try.pinned (OpenSpec.ofChange arenaFullWrong)

/- THE SECOND FORM. 'bulk': how many values and letters a reading holds, each counted each time it is reached (what is shared counts as often as it is met; a slice's spare places count too). A statement '..UptoSaid' is the law's where the arguments, and the package variables that the reading takes, are together of bulk at most 1048576: NARROWER than '..Said'. Prove '..Said' where nothing that the law and all that it calls make is longer than what came in: it says more and counts as full. Else prove '..UptoSaid'. A law counts once. -/
mutual
def uptoBulk {H : Type} : DataW H → Nat
  | .lit (.string bytes) => bytes.length + 1
  | .lit _ => 1
  | .nil => 1
  | .ptr d => uptoBulk d + 1
  | .slice elems spare => uptoBulkAll elems + uptoBulkAll spare + 1
  | .agg parts => uptoBulkAll parts + 1
  | .iface _ d => uptoBulk d + 1
  | .map entries => uptoBulkEntries entries + 1
  | .held _ => 1
def uptoBulkAll {H : Type} : List (DataW H) → Nat
  | [] => 0
  | d :: r => uptoBulk d + uptoBulkAll r
def uptoBulkEntries {H : Type} : List (Lit × DataW H) → Nat
  | [] => 0
  | x :: r => uptoBulkEntry x + uptoBulkEntries r
def uptoBulkEntry {H : Type} : Lit × DataW H → Nat
  | (.string bytes, d) => bytes.length + uptoBulk d + 1
  | (_, d) => uptoBulk d + 1
 end
def uptoSmall : (H : Type) → List (DataW H) → Bool := fun _ ds => decide (uptoBulkAll ds ≤ 1048576)
def OpenSpec.upto (s : _root_.Go.ChangeSpec) : _root_.Go.OpenSpec := { _root_.Go.OpenSpec.ofChange s with cond := some uptoSmall }

/-- 'ouroboroslaw08.ArenaTells', WHERE WHAT IT READS IS OF BULK AT MOST 1048576: true; the input reads as it did. -/
def arenaTellsUptoRow : OpenClaim := { program := "ythifkdgljapmeaa", sum := "ca00e5ac90f1451403fa92dbb247ad98e24da6eaca035ef9468673d2d7b88113", func := "ouroboros/ouroboroslaw08.ArenaTells", spec := "arenaTells", unfollowed := true, recurses := true, apart := false, narrowed := true }
def ArenaTellsUptoSaid : Prop := arenaTellsUptoRow.holds Try.pinned (OpenSpec.upto arenaTellsSpec)

/-- 'ouroboroslaw08.ArenaJoins', WHERE WHAT IT READS IS OF BULK AT MOST 1048576: true; the input reads as it did. -/
def arenaJoinsUptoRow : OpenClaim := { program := "ythifkdgljapmeaa", sum := "ca00e5ac90f1451403fa92dbb247ad98e24da6eaca035ef9468673d2d7b88113", func := "ouroboros/ouroboroslaw08.ArenaJoins", spec := "arenaJoins", unfollowed := true, recurses := true, apart := false, narrowed := true }
def ArenaJoinsUptoSaid : Prop := arenaJoinsUptoRow.holds Try.pinned (OpenSpec.upto arenaJoinsSpec)

/-- 'ouroboroslaw08.ArenaHolds', WHERE WHAT IT READS IS OF BULK AT MOST 1048576: true; the input reads as it did. -/
def arenaHoldsUptoRow : OpenClaim := { program := "ythifkdgljapmeaa", sum := "ca00e5ac90f1451403fa92dbb247ad98e24da6eaca035ef9468673d2d7b88113", func := "ouroboros/ouroboroslaw08.ArenaHolds", spec := "arenaHolds", unfollowed := true, recurses := true, apart := false, narrowed := true }
def ArenaHoldsUptoSaid : Prop := arenaHoldsUptoRow.holds Try.pinned (OpenSpec.upto arenaHoldsSpec)

/-- 'ouroboroslaw08.ArenaOrder', WHERE WHAT IT READS IS OF BULK AT MOST 1048576: true; the input reads as it did. -/
def arenaOrderUptoRow : OpenClaim := { program := "ythifkdgljapmeaa", sum := "ca00e5ac90f1451403fa92dbb247ad98e24da6eaca035ef9468673d2d7b88113", func := "ouroboros/ouroboroslaw08.ArenaOrder", spec := "arenaOrder", unfollowed := true, recurses := true, apart := false, narrowed := true }
def ArenaOrderUptoSaid : Prop := arenaOrderUptoRow.holds Try.pinned (OpenSpec.upto arenaOrderSpec)

/-- 'ouroboroslaw08.ArenaSlots', WHERE WHAT IT READS IS OF BULK AT MOST 1048576: true; the input reads as it did. -/
def arenaSlotsUptoRow : OpenClaim := { program := "ythifkdgljapmeaa", sum := "ca00e5ac90f1451403fa92dbb247ad98e24da6eaca035ef9468673d2d7b88113", func := "ouroboros/ouroboroslaw08.ArenaSlots", spec := "arenaSlots", unfollowed := true, recurses := true, apart := false, narrowed := true }
def ArenaSlotsUptoSaid : Prop := arenaSlotsUptoRow.holds Try.pinned (OpenSpec.upto arenaSlotsSpec)

/-- 'ouroboroslaw08.ArenaBelow', WHERE WHAT IT READS IS OF BULK AT MOST 1048576: true; the input reads as it did. -/
def arenaBelowUptoRow : OpenClaim := { program := "ythifkdgljapmeaa", sum := "ca00e5ac90f1451403fa92dbb247ad98e24da6eaca035ef9468673d2d7b88113", func := "ouroboros/ouroboroslaw08.ArenaBelow", spec := "arenaBelow", unfollowed := true, recurses := true, apart := false, narrowed := true }
def ArenaBelowUptoSaid : Prop := arenaBelowUptoRow.holds Try.pinned (OpenSpec.upto arenaBelowSpec)

/-- 'ouroboroslaw08.ArenaFull', WHERE WHAT IT READS IS OF BULK AT MOST 1048576: true; the input reads as it did. -/
def arenaFullUptoRow : OpenClaim := { program := "ythifkdgljapmeaa", sum := "ca00e5ac90f1451403fa92dbb247ad98e24da6eaca035ef9468673d2d7b88113", func := "ouroboros/ouroboroslaw08.ArenaFull", spec := "arenaFull", unfollowed := true, recurses := true, apart := false, narrowed := true }
def ArenaFullUptoSaid : Prop := arenaFullUptoRow.holds Try.pinned (OpenSpec.upto arenaFullSpec)

end Rows
end Go.Proofs.Ythifkdgljapmeaa
