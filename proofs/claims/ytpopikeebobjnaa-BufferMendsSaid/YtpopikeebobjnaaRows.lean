/-
  No cell of these rows narrows 'for every input' (looked for: loops, veiled, ifaces, maps, wideKeys, modest, calm, conditions, laid).
  DERIVED. THE GIVEN ROWS OF THIS SEAT. 6 by the template 'for every input the law returns true; each argument reads behind the call as it read before'; 0 by the template 'total and deterministic' (their statements: YtpopikeebobjnaaTotals.lean).
  GIVEN WITH THE SEED: the statements are not yours to turn. If you find one false, say at which input.
  Laid BY PROGRAM, IN A SANDBOX (cutbox-rows.mjs): the forced cells as the released guide's own fill.sh prints them over the translation 7b5ed32d3e783c41… (all of the seat's roots in one cut). By AI agents, Wed Nov 11 2026. No macro, syntax, notation, axiom, sorry.
-/
import Derived.Test.YtpopikeebobjnaaChecked
import GoSem.Claim
import GoSem.ClaimJoined
import GoSem.ClaimMapViews
import Derived.JoinedTies
import Derived.KernelRfl
namespace Go.Proofs.Ytpopikeebobjnaa
/- THE CELL 'sum', in the pinned program and in every row, IS THE sha256 OF THE DUMP (.gsa) THAT YtpopikeebobjnaaProg.lean LOADS. Nothing in Lean hashes anything: it is a label: what it is worth is what the hold of that sum in a sandbox is worth. -/
noncomputable def Try.pinned : Pinned := { name := "ytpopikeebobjnaa", sum := "7b5ed32d3e783c4154a0bafff54dbad74e4e36b274b1e1bcf7cb270a32070b2e", checked := Try.checked }
namespace Rows
def none {H : Type} : Left H := { results := [], args := [] }

/-- 'ouroboroslaw16.BufferTells': WHATEVER THE INPUT: true; the input reads as it did. -/
def bufferTellsSpec : ChangeSpec := { name := "bufferTells", fn := fun _ => fun
  | [d1, d2, d3, d4, d5, d6, d7] => { results := [.lit (.bool true)], args := [d1, d2, d3, d4, d5, d6, d7] }
  | _ => none }
def bufferTellsRow : OpenClaim := { program := "ytpopikeebobjnaa", sum := "7b5ed32d3e783c4154a0bafff54dbad74e4e36b274b1e1bcf7cb270a32070b2e", func := "ouroboros/ouroboroslaw16.BufferTells", spec := "bufferTells", unfollowed := true, recurses := true, apart := false }
def BufferTellsSaid : Prop := bufferTellsRow.holds Try.pinned (OpenSpec.ofChange bufferTellsSpec)

/-- ITS FALSE NEIGHBOUR: 'it returns false'. Refute it at one input. -/
def bufferTellsWrong : ChangeSpec := { name := "bufferTells", fn := fun _ => fun
  | [d1, d2, d3, d4, d5, d6, d7] => { results := [.lit (.bool false)], args := [d1, d2, d3, d4, d5, d6, d7] }
  | _ => none }
def BufferTellsWrongFalsely : Prop := bufferTellsRow.holds Try.pinned (OpenSpec.ofChange bufferTellsWrong)

/-- 'ouroboroslaw16.BufferMends': WHATEVER THE INPUT: true; the input reads as it did. -/
def bufferMendsSpec : ChangeSpec := { name := "bufferMends", fn := fun _ => fun
  | [d1, d2, d3, d4, d5, d6] => { results := [.lit (.bool true)], args := [d1, d2, d3, d4, d5, d6] }
  | _ => none }
def bufferMendsRow : OpenClaim := { program := "ytpopikeebobjnaa", sum := "7b5ed32d3e783c4154a0bafff54dbad74e4e36b274b1e1bcf7cb270a32070b2e", func := "ouroboros/ouroboroslaw16.BufferMends", spec := "bufferMends", unfollowed := true, recurses := true, apart := false }
def BufferMendsSaid : Prop := bufferMendsRow.holds Try.pinned (OpenSpec.ofChange bufferMendsSpec)

/-- ITS FALSE NEIGHBOUR: 'it returns false'. Refute it at one input. -/
def bufferMendsWrong : ChangeSpec := { name := "bufferMends", fn := fun _ => fun
  | [d1, d2, d3, d4, d5, d6] => { results := [.lit (.bool false)], args := [d1, d2, d3, d4, d5, d6] }
  | _ => none }
def BufferMendsWrongFalsely : Prop := bufferMendsRow.holds Try.pinned (OpenSpec.ofChange bufferMendsWrong)

/-- 'ouroboroslaw16.BufferNotes': WHATEVER THE INPUT: true; the input reads as it did. -/
def bufferNotesSpec : ChangeSpec := { name := "bufferNotes", fn := fun _ => fun
  | [d1, d2, d3, d4] => { results := [.lit (.bool true)], args := [d1, d2, d3, d4] }
  | _ => none }
def bufferNotesRow : OpenClaim := { program := "ytpopikeebobjnaa", sum := "7b5ed32d3e783c4154a0bafff54dbad74e4e36b274b1e1bcf7cb270a32070b2e", func := "ouroboros/ouroboroslaw16.BufferNotes", spec := "bufferNotes", unfollowed := true, recurses := true, apart := false }
def BufferNotesSaid : Prop := bufferNotesRow.holds Try.pinned (OpenSpec.ofChange bufferNotesSpec)

/-- ITS FALSE NEIGHBOUR: 'it returns false'. Refute it at one input. -/
def bufferNotesWrong : ChangeSpec := { name := "bufferNotes", fn := fun _ => fun
  | [d1, d2, d3, d4] => { results := [.lit (.bool false)], args := [d1, d2, d3, d4] }
  | _ => none }
def BufferNotesWrongFalsely : Prop := bufferNotesRow.holds Try.pinned (OpenSpec.ofChange bufferNotesWrong)

/-- 'ouroboroslaw16.BufferAcks': WHATEVER THE INPUT: true; the input reads as it did. -/
def bufferAcksSpec : ChangeSpec := { name := "bufferAcks", fn := fun _ => fun
  | [d1, d2, d3, d4, d5] => { results := [.lit (.bool true)], args := [d1, d2, d3, d4, d5] }
  | _ => none }
def bufferAcksRow : OpenClaim := { program := "ytpopikeebobjnaa", sum := "7b5ed32d3e783c4154a0bafff54dbad74e4e36b274b1e1bcf7cb270a32070b2e", func := "ouroboros/ouroboroslaw16.BufferAcks", spec := "bufferAcks", unfollowed := true, recurses := true, apart := false }
def BufferAcksSaid : Prop := bufferAcksRow.holds Try.pinned (OpenSpec.ofChange bufferAcksSpec)

/-- ITS FALSE NEIGHBOUR: 'it returns false'. Refute it at one input. -/
def bufferAcksWrong : ChangeSpec := { name := "bufferAcks", fn := fun _ => fun
  | [d1, d2, d3, d4, d5] => { results := [.lit (.bool false)], args := [d1, d2, d3, d4, d5] }
  | _ => none }
def BufferAcksWrongFalsely : Prop := bufferAcksRow.holds Try.pinned (OpenSpec.ofChange bufferAcksWrong)

/-- 'ouroboroslaw16.BufferSome': WHATEVER THE INPUT: true; the input reads as it did. -/
def bufferSomeSpec : ChangeSpec := { name := "bufferSome", fn := fun _ => fun
  | [d1, d2, d3, d4] => { results := [.lit (.bool true)], args := [d1, d2, d3, d4] }
  | _ => none }
def bufferSomeRow : OpenClaim := { program := "ytpopikeebobjnaa", sum := "7b5ed32d3e783c4154a0bafff54dbad74e4e36b274b1e1bcf7cb270a32070b2e", func := "ouroboros/ouroboroslaw16.BufferSome", spec := "bufferSome", unfollowed := true, recurses := true, apart := false }
def BufferSomeSaid : Prop := bufferSomeRow.holds Try.pinned (OpenSpec.ofChange bufferSomeSpec)

/-- ITS FALSE NEIGHBOUR: 'it returns false'. Refute it at one input. -/
def bufferSomeWrong : ChangeSpec := { name := "bufferSome", fn := fun _ => fun
  | [d1, d2, d3, d4] => { results := [.lit (.bool false)], args := [d1, d2, d3, d4] }
  | _ => none }
def BufferSomeWrongFalsely : Prop := bufferSomeRow.holds Try.pinned (OpenSpec.ofChange bufferSomeWrong)

/-- 'ouroboroslaw16.BufferYoungest': WHATEVER THE INPUT: true; the input reads as it did. -/
def bufferYoungestSpec : ChangeSpec := { name := "bufferYoungest", fn := fun _ => fun
  | [d1, d2, d3, d4] => { results := [.lit (.bool true)], args := [d1, d2, d3, d4] }
  | _ => none }
def bufferYoungestRow : OpenClaim := { program := "ytpopikeebobjnaa", sum := "7b5ed32d3e783c4154a0bafff54dbad74e4e36b274b1e1bcf7cb270a32070b2e", func := "ouroboros/ouroboroslaw16.BufferYoungest", spec := "bufferYoungest", unfollowed := true, recurses := true, apart := false }
def BufferYoungestSaid : Prop := bufferYoungestRow.holds Try.pinned (OpenSpec.ofChange bufferYoungestSpec)

/-- ITS FALSE NEIGHBOUR: 'it returns false'. Refute it at one input. -/
def bufferYoungestWrong : ChangeSpec := { name := "bufferYoungest", fn := fun _ => fun
  | [d1, d2, d3, d4] => { results := [.lit (.bool false)], args := [d1, d2, d3, d4] }
  | _ => none }
def BufferYoungestWrongFalsely : Prop := bufferYoungestRow.holds Try.pinned (OpenSpec.ofChange bufferYoungestWrong)

/- THE SECOND FORM. 'bulk': how many values and letters a reading holds, each counted each time it is reached (what is shared counts as often as it is met; a slice's spare places count too). A statement '..UptoSaid' is the law's where the arguments, and the package variables that the reading takes, are together of bulk at most 1048576: NARROWER than '..Said'. Prove '..Said' where nothing that the law and all that it calls make is longer than what came in: it says more and counts as full. Else prove '..UptoSaid'. A law counts once. -/
mutual
def uptoBulk {H : Type} : DataW H → Nat
  | .lit (.string bytes) => bytes.length + 1
  | .lit _ => 1
  | .nil => 1
  | .ptr d => uptoBulk d + 1
  | .slice elems spare => uptoBulkAll elems + uptoBulkAll spare + 1
  | .agg parts => uptoBulkAll parts + 1
  | .iface _ d => uptoBulk d + 1
  | .map entries => uptoBulkEntries entries + 1
  | .held _ => 1
def uptoBulkAll {H : Type} : List (DataW H) → Nat
  | [] => 0
  | d :: r => uptoBulk d + uptoBulkAll r
def uptoBulkEntries {H : Type} : List (Lit × DataW H) → Nat
  | [] => 0
  | x :: r => uptoBulkEntry x + uptoBulkEntries r
def uptoBulkEntry {H : Type} : Lit × DataW H → Nat
  | (.string bytes, d) => bytes.length + uptoBulk d + 1
  | (_, d) => uptoBulk d + 1
 end
def uptoSmall : (H : Type) → List (DataW H) → Bool := fun _ ds => decide (uptoBulkAll ds ≤ 1048576)
def OpenSpec.upto (s : _root_.Go.ChangeSpec) : _root_.Go.OpenSpec := { _root_.Go.OpenSpec.ofChange s with cond := some uptoSmall }

/-- 'ouroboroslaw16.BufferTells', WHERE WHAT IT READS IS OF BULK AT MOST 1048576: true; the input reads as it did. -/
def bufferTellsUptoRow : OpenClaim := { program := "ytpopikeebobjnaa", sum := "7b5ed32d3e783c4154a0bafff54dbad74e4e36b274b1e1bcf7cb270a32070b2e", func := "ouroboros/ouroboroslaw16.BufferTells", spec := "bufferTells", unfollowed := true, recurses := true, apart := false, narrowed := true }
def BufferTellsUptoSaid : Prop := bufferTellsUptoRow.holds Try.pinned (OpenSpec.upto bufferTellsSpec)

/-- 'ouroboroslaw16.BufferMends', WHERE WHAT IT READS IS OF BULK AT MOST 1048576: true; the input reads as it did. -/
def bufferMendsUptoRow : OpenClaim := { program := "ytpopikeebobjnaa", sum := "7b5ed32d3e783c4154a0bafff54dbad74e4e36b274b1e1bcf7cb270a32070b2e", func := "ouroboros/ouroboroslaw16.BufferMends", spec := "bufferMends", unfollowed := true, recurses := true, apart := false, narrowed := true }
def BufferMendsUptoSaid : Prop := bufferMendsUptoRow.holds Try.pinned (OpenSpec.upto bufferMendsSpec)

/-- 'ouroboroslaw16.BufferNotes', WHERE WHAT IT READS IS OF BULK AT MOST 1048576: true; the input reads as it did. -/
def bufferNotesUptoRow : OpenClaim := { program := "ytpopikeebobjnaa", sum := "7b5ed32d3e783c4154a0bafff54dbad74e4e36b274b1e1bcf7cb270a32070b2e", func := "ouroboros/ouroboroslaw16.BufferNotes", spec := "bufferNotes", unfollowed := true, recurses := true, apart := false, narrowed := true }
def BufferNotesUptoSaid : Prop := bufferNotesUptoRow.holds Try.pinned (OpenSpec.upto bufferNotesSpec)

/-- 'ouroboroslaw16.BufferAcks', WHERE WHAT IT READS IS OF BULK AT MOST 1048576: true; the input reads as it did. -/
def bufferAcksUptoRow : OpenClaim := { program := "ytpopikeebobjnaa", sum := "7b5ed32d3e783c4154a0bafff54dbad74e4e36b274b1e1bcf7cb270a32070b2e", func := "ouroboros/ouroboroslaw16.BufferAcks", spec := "bufferAcks", unfollowed := true, recurses := true, apart := false, narrowed := true }
def BufferAcksUptoSaid : Prop := bufferAcksUptoRow.holds Try.pinned (OpenSpec.upto bufferAcksSpec)

/-- 'ouroboroslaw16.BufferSome', WHERE WHAT IT READS IS OF BULK AT MOST 1048576: true; the input reads as it did. -/
def bufferSomeUptoRow : OpenClaim := { program := "ytpopikeebobjnaa", sum := "7b5ed32d3e783c4154a0bafff54dbad74e4e36b274b1e1bcf7cb270a32070b2e", func := "ouroboros/ouroboroslaw16.BufferSome", spec := "bufferSome", unfollowed := true, recurses := true, apart := false, narrowed := true }
def BufferSomeUptoSaid : Prop := bufferSomeUptoRow.holds Try.pinned (OpenSpec.upto bufferSomeSpec)

/-- 'ouroboroslaw16.BufferYoungest', WHERE WHAT IT READS IS OF BULK AT MOST 1048576: true; the input reads as it did. -/
def bufferYoungestUptoRow : OpenClaim := { program := "ytpopikeebobjnaa", sum := "7b5ed32d3e783c4154a0bafff54dbad74e4e36b274b1e1bcf7cb270a32070b2e", func := "ouroboros/ouroboroslaw16.BufferYoungest", spec := "bufferYoungest", unfollowed := true, recurses := true, apart := false, narrowed := true }
def BufferYoungestUptoSaid : Prop := bufferYoungestUptoRow.holds Try.pinned (OpenSpec.upto bufferYoungestSpec)

end Rows
end Go.Proofs.Ytpopikeebobjnaa
