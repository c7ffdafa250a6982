/-
  No cell of these rows narrows 'for every input' (looked for: loops, veiled, ifaces, maps, wideKeys, modest, calm, conditions, laid).
  DERIVED. THE GIVEN ROWS OF THIS SEAT. 6 by the template 'for every input the law returns true; each argument reads behind the call as it read before'; 0 by the template 'total and deterministic' (their statements: YtbijobepjjokmaaTotals.lean).
  GIVEN WITH THE SEED: the statements are not yours to turn. If you find one false, say at which input.
  Laid BY PROGRAM, IN A SANDBOX (cutbox-rows.mjs): the forced cells as the released guide's own fill.sh prints them over the translation 30f14d976766e4b5… (all of the seat's roots in one cut). By AI agents, Wed Nov 11 2026. No macro, syntax, notation, axiom, sorry.
-/
import Derived.Test.YtbijobepjjokmaaChecked
import GoSem.Claim
import GoSem.ClaimJoined
import GoSem.ClaimMapViews
import Derived.JoinedTies
import Derived.KernelRfl
namespace Go.Proofs.Ytbijobepjjokmaa
/- THE CELL 'sum', in the pinned program and in every row, IS THE sha256 OF THE DUMP (.gsa) THAT YtbijobepjjokmaaProg.lean LOADS. Nothing in Lean hashes anything: it is a label: what it is worth is what the hold of that sum in a sandbox is worth. -/
noncomputable def Try.pinned : Pinned := { name := "ytbijobepjjokmaa", sum := "30f14d976766e4b5b9bb8ca5ce6946691be0a0f473d9c595c1b84f2fd95d49a4", checked := Try.checked }
namespace Rows
def none {H : Type} : Left H := { results := [], args := [] }

/-- 'ouroboroslaw07.EntryTells': WHATEVER THE INPUT: true; the input reads as it did. -/
def entryTellsSpec : ChangeSpec := { name := "entryTells", fn := fun _ => fun
  | [d1, d2] => { results := [.lit (.bool true)], args := [d1, d2] }
  | _ => none }
def entryTellsRow : OpenClaim := { program := "ytbijobepjjokmaa", sum := "30f14d976766e4b5b9bb8ca5ce6946691be0a0f473d9c595c1b84f2fd95d49a4", func := "ouroboros/ouroboroslaw07.EntryTells", spec := "entryTells", inPlace := ["internal/abi.NoEscape"], unfollowed := true, recurses := true, apart := false }
def EntryTellsSaid : Prop := entryTellsRow.holds Try.pinned (OpenSpec.ofChange entryTellsSpec)

/-- ITS FALSE NEIGHBOUR: 'it returns false'. Refute it at one input. -/
def entryTellsWrong : ChangeSpec := { name := "entryTells", fn := fun _ => fun
  | [d1, d2] => { results := [.lit (.bool false)], args := [d1, d2] }
  | _ => none }
def EntryTellsWrongFalsely : Prop := entryTellsRow.holds Try.pinned (OpenSpec.ofChange entryTellsWrong)

/-- 'ouroboroslaw07.EntryGets': WHATEVER THE INPUT: true; the input reads as it did. -/
def entryGetsSpec : ChangeSpec := { name := "entryGets", fn := fun _ => fun
  | [d] => { results := [.lit (.bool true)], args := [d] }
  | _ => none }
def entryGetsRow : OpenClaim := { program := "ytbijobepjjokmaa", sum := "30f14d976766e4b5b9bb8ca5ce6946691be0a0f473d9c595c1b84f2fd95d49a4", func := "ouroboros/ouroboroslaw07.EntryGets", spec := "entryGets", inPlace := ["internal/abi.NoEscape"], unfollowed := true, recurses := true, apart := false }
def EntryGetsSaid : Prop := entryGetsRow.holds Try.pinned (OpenSpec.ofChange entryGetsSpec)

/-- ITS FALSE NEIGHBOUR: 'it returns false'. Refute it at one input. -/
def entryGetsWrong : ChangeSpec := { name := "entryGets", fn := fun _ => fun
  | [d] => { results := [.lit (.bool false)], args := [d] }
  | _ => none }
def EntryGetsWrongFalsely : Prop := entryGetsRow.holds Try.pinned (OpenSpec.ofChange entryGetsWrong)

/-- 'ouroboroslaw07.EntryBack': WHATEVER THE INPUT: true; the input reads as it did. -/
def entryBackSpec : ChangeSpec := { name := "entryBack", fn := fun _ => fun
  | [d1, d2] => { results := [.lit (.bool true)], args := [d1, d2] }
  | _ => none }
def entryBackRow : OpenClaim := { program := "ytbijobepjjokmaa", sum := "30f14d976766e4b5b9bb8ca5ce6946691be0a0f473d9c595c1b84f2fd95d49a4", func := "ouroboros/ouroboroslaw07.EntryBack", spec := "entryBack", inPlace := ["internal/abi.NoEscape"], unfollowed := true, recurses := true, apart := false }
def EntryBackSaid : Prop := entryBackRow.holds Try.pinned (OpenSpec.ofChange entryBackSpec)

/-- ITS FALSE NEIGHBOUR: 'it returns false'. Refute it at one input. -/
def entryBackWrong : ChangeSpec := { name := "entryBack", fn := fun _ => fun
  | [d1, d2] => { results := [.lit (.bool false)], args := [d1, d2] }
  | _ => none }
def EntryBackWrongFalsely : Prop := entryBackRow.holds Try.pinned (OpenSpec.ofChange entryBackWrong)

/-- 'ouroboroslaw07.EntryOrder': WHATEVER THE INPUT: true; the input reads as it did. -/
def entryOrderSpec : ChangeSpec := { name := "entryOrder", fn := fun _ => fun
  | [d1, d2, d3] => { results := [.lit (.bool true)], args := [d1, d2, d3] }
  | _ => none }
def entryOrderRow : OpenClaim := { program := "ytbijobepjjokmaa", sum := "30f14d976766e4b5b9bb8ca5ce6946691be0a0f473d9c595c1b84f2fd95d49a4", func := "ouroboros/ouroboroslaw07.EntryOrder", spec := "entryOrder", inPlace := ["internal/abi.NoEscape"], unfollowed := true, recurses := true, apart := false }
def EntryOrderSaid : Prop := entryOrderRow.holds Try.pinned (OpenSpec.ofChange entryOrderSpec)

/-- ITS FALSE NEIGHBOUR: 'it returns false'. Refute it at one input. -/
def entryOrderWrong : ChangeSpec := { name := "entryOrder", fn := fun _ => fun
  | [d1, d2, d3] => { results := [.lit (.bool false)], args := [d1, d2, d3] }
  | _ => none }
def EntryOrderWrongFalsely : Prop := entryOrderRow.holds Try.pinned (OpenSpec.ofChange entryOrderWrong)

/-- 'ouroboroslaw07.EntryJoins': WHATEVER THE INPUT: true; the input reads as it did. -/
def entryJoinsSpec : ChangeSpec := { name := "entryJoins", fn := fun _ => fun
  | [d1, d2] => { results := [.lit (.bool true)], args := [d1, d2] }
  | _ => none }
def entryJoinsRow : OpenClaim := { program := "ytbijobepjjokmaa", sum := "30f14d976766e4b5b9bb8ca5ce6946691be0a0f473d9c595c1b84f2fd95d49a4", func := "ouroboros/ouroboroslaw07.EntryJoins", spec := "entryJoins", inPlace := ["internal/abi.NoEscape"], unfollowed := true, recurses := true, apart := false }
def EntryJoinsSaid : Prop := entryJoinsRow.holds Try.pinned (OpenSpec.ofChange entryJoinsSpec)

/-- ITS FALSE NEIGHBOUR: 'it returns false'. Refute it at one input. -/
def entryJoinsWrong : ChangeSpec := { name := "entryJoins", fn := fun _ => fun
  | [d1, d2] => { results := [.lit (.bool false)], args := [d1, d2] }
  | _ => none }
def EntryJoinsWrongFalsely : Prop := entryJoinsRow.holds Try.pinned (OpenSpec.ofChange entryJoinsWrong)

/-- 'ouroboroslaw07.EntryUnlike': WHATEVER THE INPUT: true; the input reads as it did. -/
def entryUnlikeSpec : ChangeSpec := { name := "entryUnlike", fn := fun _ => fun
  | [d1, d2] => { results := [.lit (.bool true)], args := [d1, d2] }
  | _ => none }
def entryUnlikeRow : OpenClaim := { program := "ytbijobepjjokmaa", sum := "30f14d976766e4b5b9bb8ca5ce6946691be0a0f473d9c595c1b84f2fd95d49a4", func := "ouroboros/ouroboroslaw07.EntryUnlike", spec := "entryUnlike", inPlace := ["internal/abi.NoEscape"], unfollowed := true, recurses := true, apart := false }
def EntryUnlikeSaid : Prop := entryUnlikeRow.holds Try.pinned (OpenSpec.ofChange entryUnlikeSpec)

/-- ITS FALSE NEIGHBOUR: 'it returns false'. Refute it at one input. -/
def entryUnlikeWrong : ChangeSpec := { name := "entryUnlike", fn := fun _ => fun
  | [d1, d2] => { results := [.lit (.bool false)], args := [d1, d2] }
  | _ => none }
def EntryUnlikeWrongFalsely : Prop := entryUnlikeRow.holds Try.pinned (OpenSpec.ofChange entryUnlikeWrong)

/- THE SECOND FORM. 'bulk': how many values and letters a reading holds, each counted each time it is reached (what is shared counts as often as it is met; a slice's spare places count too). A statement '..UptoSaid' is the law's where the arguments, and the package variables that the reading takes, are together of bulk at most 1048576: NARROWER than '..Said'. Prove '..Said' where nothing that the law and all that it calls make is longer than what came in: it says more and counts as full. Else prove '..UptoSaid'. A law counts once. -/
mutual
def uptoBulk {H : Type} : DataW H → Nat
  | .lit (.string bytes) => bytes.length + 1
  | .lit _ => 1
  | .nil => 1
  | .ptr d => uptoBulk d + 1
  | .slice elems spare => uptoBulkAll elems + uptoBulkAll spare + 1
  | .agg parts => uptoBulkAll parts + 1
  | .iface _ d => uptoBulk d + 1
  | .map entries => uptoBulkEntries entries + 1
  | .held _ => 1
def uptoBulkAll {H : Type} : List (DataW H) → Nat
  | [] => 0
  | d :: r => uptoBulk d + uptoBulkAll r
def uptoBulkEntries {H : Type} : List (Lit × DataW H) → Nat
  | [] => 0
  | x :: r => uptoBulkEntry x + uptoBulkEntries r
def uptoBulkEntry {H : Type} : Lit × DataW H → Nat
  | (.string bytes, d) => bytes.length + uptoBulk d + 1
  | (_, d) => uptoBulk d + 1
 end
def uptoSmall : (H : Type) → List (DataW H) → Bool := fun _ ds => decide (uptoBulkAll ds ≤ 1048576)
def OpenSpec.upto (s : _root_.Go.ChangeSpec) : _root_.Go.OpenSpec := { _root_.Go.OpenSpec.ofChange s with cond := some uptoSmall }

/-- 'ouroboroslaw07.EntryTells', WHERE WHAT IT READS IS OF BULK AT MOST 1048576: true; the input reads as it did. -/
def entryTellsUptoRow : OpenClaim := { program := "ytbijobepjjokmaa", sum := "30f14d976766e4b5b9bb8ca5ce6946691be0a0f473d9c595c1b84f2fd95d49a4", func := "ouroboros/ouroboroslaw07.EntryTells", spec := "entryTells", inPlace := ["internal/abi.NoEscape"], unfollowed := true, recurses := true, apart := false, narrowed := true }
def EntryTellsUptoSaid : Prop := entryTellsUptoRow.holds Try.pinned (OpenSpec.upto entryTellsSpec)

/-- 'ouroboroslaw07.EntryGets', WHERE WHAT IT READS IS OF BULK AT MOST 1048576: true; the input reads as it did. -/
def entryGetsUptoRow : OpenClaim := { program := "ytbijobepjjokmaa", sum := "30f14d976766e4b5b9bb8ca5ce6946691be0a0f473d9c595c1b84f2fd95d49a4", func := "ouroboros/ouroboroslaw07.EntryGets", spec := "entryGets", inPlace := ["internal/abi.NoEscape"], unfollowed := true, recurses := true, apart := false, narrowed := true }
def EntryGetsUptoSaid : Prop := entryGetsUptoRow.holds Try.pinned (OpenSpec.upto entryGetsSpec)

/-- 'ouroboroslaw07.EntryBack', WHERE WHAT IT READS IS OF BULK AT MOST 1048576: true; the input reads as it did. -/
def entryBackUptoRow : OpenClaim := { program := "ytbijobepjjokmaa", sum := "30f14d976766e4b5b9bb8ca5ce6946691be0a0f473d9c595c1b84f2fd95d49a4", func := "ouroboros/ouroboroslaw07.EntryBack", spec := "entryBack", inPlace := ["internal/abi.NoEscape"], unfollowed := true, recurses := true, apart := false, narrowed := true }
def EntryBackUptoSaid : Prop := entryBackUptoRow.holds Try.pinned (OpenSpec.upto entryBackSpec)

/-- 'ouroboroslaw07.EntryOrder', WHERE WHAT IT READS IS OF BULK AT MOST 1048576: true; the input reads as it did. -/
def entryOrderUptoRow : OpenClaim := { program := "ytbijobepjjokmaa", sum := "30f14d976766e4b5b9bb8ca5ce6946691be0a0f473d9c595c1b84f2fd95d49a4", func := "ouroboros/ouroboroslaw07.EntryOrder", spec := "entryOrder", inPlace := ["internal/abi.NoEscape"], unfollowed := true, recurses := true, apart := false, narrowed := true }
def EntryOrderUptoSaid : Prop := entryOrderUptoRow.holds Try.pinned (OpenSpec.upto entryOrderSpec)

/-- 'ouroboroslaw07.EntryJoins', WHERE WHAT IT READS IS OF BULK AT MOST 1048576: true; the input reads as it did. -/
def entryJoinsUptoRow : OpenClaim := { program := "ytbijobepjjokmaa", sum := "30f14d976766e4b5b9bb8ca5ce6946691be0a0f473d9c595c1b84f2fd95d49a4", func := "ouroboros/ouroboroslaw07.EntryJoins", spec := "entryJoins", inPlace := ["internal/abi.NoEscape"], unfollowed := true, recurses := true, apart := false, narrowed := true }
def EntryJoinsUptoSaid : Prop := entryJoinsUptoRow.holds Try.pinned (OpenSpec.upto entryJoinsSpec)

/-- 'ouroboroslaw07.EntryUnlike', WHERE WHAT IT READS IS OF BULK AT MOST 1048576: true; the input reads as it did. -/
def entryUnlikeUptoRow : OpenClaim := { program := "ytbijobepjjokmaa", sum := "30f14d976766e4b5b9bb8ca5ce6946691be0a0f473d9c595c1b84f2fd95d49a4", func := "ouroboros/ouroboroslaw07.EntryUnlike", spec := "entryUnlike", inPlace := ["internal/abi.NoEscape"], unfollowed := true, recurses := true, apart := false, narrowed := true }
def EntryUnlikeUptoSaid : Prop := entryUnlikeUptoRow.holds Try.pinned (OpenSpec.upto entryUnlikeSpec)

end Rows
end Go.Proofs.Ytbijobepjjokmaa
