/-
  No cell of these rows narrows 'for every input' (looked for: loops, veiled, ifaces, maps, wideKeys, modest, calm, conditions, laid).
  DERIVED. THE GIVEN ROWS OF THIS SEAT. 5 by the template 'for every input the law returns true; each argument reads behind the call as it read before'; 0 by the template 'total and deterministic' (their statements: YthfkbabgkacfnaaTotals.lean).
  GIVEN WITH THE SEED: the statements are not yours to turn. If you find one false, say at which input.
  Laid BY PROGRAM, IN A SANDBOX (cutbox-rows.mjs): the forced cells as the released guide's own fill.sh prints them over the translation 3096da672eaae84b… (all of the seat's roots in one cut). By AI agents, Wed Nov 11 2026. No macro, syntax, notation, axiom, sorry.
-/
import Derived.Test.YthfkbabgkacfnaaChecked
import GoSem.Claim
import GoSem.ClaimJoined
import GoSem.ClaimMapViews
import Derived.JoinedTies
import Derived.KernelRfl
namespace Go.Proofs.Ythfkbabgkacfnaa
/- THE CELL 'sum', in the pinned program and in every row, IS THE sha256 OF THE DUMP (.gsa) THAT YthfkbabgkacfnaaProg.lean LOADS. Nothing in Lean hashes anything: it is a label: what it is worth is what the hold of that sum in a sandbox is worth. -/
noncomputable def Try.pinned : Pinned := { name := "ythfkbabgkacfnaa", sum := "3096da672eaae84b2a69a21701802d411e6cf1af87d503965594845ea4431a20", checked := Try.checked }
namespace Rows
def none {H : Type} : Left H := { results := [], args := [] }

/-- 'ouroboroslaw17.PushGoes': WHATEVER THE INPUT: true; the input reads as it did. -/
def pushGoesSpec : ChangeSpec := { name := "pushGoes", fn := fun _ => fun
  | [d1, d2, d3, d4] => { results := [.lit (.bool true)], args := [d1, d2, d3, d4] }
  | _ => none }
def pushGoesRow : OpenClaim := { program := "ythfkbabgkacfnaa", sum := "3096da672eaae84b2a69a21701802d411e6cf1af87d503965594845ea4431a20", func := "ouroboros/ouroboroslaw17.PushGoes", spec := "pushGoes", unfollowed := true, recurses := true, apart := false }
def PushGoesSaid : Prop := pushGoesRow.holds Try.pinned (OpenSpec.ofChange pushGoesSpec)

/-- ITS FALSE NEIGHBOUR: 'it returns false'. Refute it at one input. -/
def pushGoesWrong : ChangeSpec := { name := "pushGoes", fn := fun _ => fun
  | [d1, d2, d3, d4] => { results := [.lit (.bool false)], args := [d1, d2, d3, d4] }
  | _ => none }
def PushGoesWrongFalsely : Prop := pushGoesRow.holds Try.pinned (OpenSpec.ofChange pushGoesWrong)

/-- 'ouroboroslaw17.PushOrder': WHATEVER THE INPUT: true; the input reads as it did. -/
def pushOrderSpec : ChangeSpec := { name := "pushOrder", fn := fun _ => fun
  | [d1, d2, d3] => { results := [.lit (.bool true)], args := [d1, d2, d3] }
  | _ => none }
def pushOrderRow : OpenClaim := { program := "ythfkbabgkacfnaa", sum := "3096da672eaae84b2a69a21701802d411e6cf1af87d503965594845ea4431a20", func := "ouroboros/ouroboroslaw17.PushOrder", spec := "pushOrder", unfollowed := true, recurses := true, apart := false }
def PushOrderSaid : Prop := pushOrderRow.holds Try.pinned (OpenSpec.ofChange pushOrderSpec)

/-- ITS FALSE NEIGHBOUR: 'it returns false'. Refute it at one input. -/
def pushOrderWrong : ChangeSpec := { name := "pushOrder", fn := fun _ => fun
  | [d1, d2, d3] => { results := [.lit (.bool false)], args := [d1, d2, d3] }
  | _ => none }
def PushOrderWrongFalsely : Prop := pushOrderRow.holds Try.pinned (OpenSpec.ofChange pushOrderWrong)

/-- 'ouroboroslaw17.PushTwice': WHATEVER THE INPUT: true; the input reads as it did. -/
def pushTwiceSpec : ChangeSpec := { name := "pushTwice", fn := fun _ => fun
  | [d1, d2, d3, d4, d5] => { results := [.lit (.bool true)], args := [d1, d2, d3, d4, d5] }
  | _ => none }
def pushTwiceRow : OpenClaim := { program := "ythfkbabgkacfnaa", sum := "3096da672eaae84b2a69a21701802d411e6cf1af87d503965594845ea4431a20", func := "ouroboros/ouroboroslaw17.PushTwice", spec := "pushTwice", unfollowed := true, recurses := true, apart := false }
def PushTwiceSaid : Prop := pushTwiceRow.holds Try.pinned (OpenSpec.ofChange pushTwiceSpec)

/-- ITS FALSE NEIGHBOUR: 'it returns false'. Refute it at one input. -/
def pushTwiceWrong : ChangeSpec := { name := "pushTwice", fn := fun _ => fun
  | [d1, d2, d3, d4, d5] => { results := [.lit (.bool false)], args := [d1, d2, d3, d4, d5] }
  | _ => none }
def PushTwiceWrongFalsely : Prop := pushTwiceRow.holds Try.pinned (OpenSpec.ofChange pushTwiceWrong)

/-- 'ouroboroslaw17.PushResets': WHATEVER THE INPUT: true; the input reads as it did. -/
def pushResetsSpec : ChangeSpec := { name := "pushResets", fn := fun _ => fun
  | [d1, d2, d3, d4, d5] => { results := [.lit (.bool true)], args := [d1, d2, d3, d4, d5] }
  | _ => none }
def pushResetsRow : OpenClaim := { program := "ythfkbabgkacfnaa", sum := "3096da672eaae84b2a69a21701802d411e6cf1af87d503965594845ea4431a20", func := "ouroboros/ouroboroslaw17.PushResets", spec := "pushResets", unfollowed := true, recurses := true, apart := false }
def PushResetsSaid : Prop := pushResetsRow.holds Try.pinned (OpenSpec.ofChange pushResetsSpec)

/-- ITS FALSE NEIGHBOUR: 'it returns false'. Refute it at one input. -/
def pushResetsWrong : ChangeSpec := { name := "pushResets", fn := fun _ => fun
  | [d1, d2, d3, d4, d5] => { results := [.lit (.bool false)], args := [d1, d2, d3, d4, d5] }
  | _ => none }
def PushResetsWrongFalsely : Prop := pushResetsRow.holds Try.pinned (OpenSpec.ofChange pushResetsWrong)

/-- 'ouroboroslaw17.PushAgain': WHATEVER THE INPUT: true; the input reads as it did. -/
def pushAgainSpec : ChangeSpec := { name := "pushAgain", fn := fun _ => fun
  | [d1, d2, d3, d4] => { results := [.lit (.bool true)], args := [d1, d2, d3, d4] }
  | _ => none }
def pushAgainRow : OpenClaim := { program := "ythfkbabgkacfnaa", sum := "3096da672eaae84b2a69a21701802d411e6cf1af87d503965594845ea4431a20", func := "ouroboros/ouroboroslaw17.PushAgain", spec := "pushAgain", unfollowed := true, recurses := true, apart := false }
def PushAgainSaid : Prop := pushAgainRow.holds Try.pinned (OpenSpec.ofChange pushAgainSpec)

/-- ITS FALSE NEIGHBOUR: 'it returns false'. Refute it at one input. -/
def pushAgainWrong : ChangeSpec := { name := "pushAgain", fn := fun _ => fun
  | [d1, d2, d3, d4] => { results := [.lit (.bool false)], args := [d1, d2, d3, d4] }
  | _ => none }
def PushAgainWrongFalsely : Prop := pushAgainRow.holds Try.pinned (OpenSpec.ofChange pushAgainWrong)

/- THE SECOND FORM. 'bulk': how many values and letters a reading holds, each counted each time it is reached (what is shared counts as often as it is met; a slice's spare places count too). A statement '..UptoSaid' is the law's where the arguments, and the package variables that the reading takes, are together of bulk at most 1048576: NARROWER than '..Said'. Prove '..Said' where nothing that the law and all that it calls make is longer than what came in: it says more and counts as full. Else prove '..UptoSaid'. A law counts once. -/
mutual
def uptoBulk {H : Type} : DataW H → Nat
  | .lit (.string bytes) => bytes.length + 1
  | .lit _ => 1
  | .nil => 1
  | .ptr d => uptoBulk d + 1
  | .slice elems spare => uptoBulkAll elems + uptoBulkAll spare + 1
  | .agg parts => uptoBulkAll parts + 1
  | .iface _ d => uptoBulk d + 1
  | .map entries => uptoBulkEntries entries + 1
  | .held _ => 1
def uptoBulkAll {H : Type} : List (DataW H) → Nat
  | [] => 0
  | d :: r => uptoBulk d + uptoBulkAll r
def uptoBulkEntries {H : Type} : List (Lit × DataW H) → Nat
  | [] => 0
  | x :: r => uptoBulkEntry x + uptoBulkEntries r
def uptoBulkEntry {H : Type} : Lit × DataW H → Nat
  | (.string bytes, d) => bytes.length + uptoBulk d + 1
  | (_, d) => uptoBulk d + 1
 end
def uptoSmall : (H : Type) → List (DataW H) → Bool := fun _ ds => decide (uptoBulkAll ds ≤ 1048576)
def OpenSpec.upto (s : _root_.Go.ChangeSpec) : _root_.Go.OpenSpec := { _root_.Go.OpenSpec.ofChange s with cond := some uptoSmall }

/-- 'ouroboroslaw17.PushGoes', WHERE WHAT IT READS IS OF BULK AT MOST 1048576: true; the input reads as it did. -/
def pushGoesUptoRow : OpenClaim := { program := "ythfkbabgkacfnaa", sum := "3096da672eaae84b2a69a21701802d411e6cf1af87d503965594845ea4431a20", func := "ouroboros/ouroboroslaw17.PushGoes", spec := "pushGoes", unfollowed := true, recurses := true, apart := false, narrowed := true }
def PushGoesUptoSaid : Prop := pushGoesUptoRow.holds Try.pinned (OpenSpec.upto pushGoesSpec)

/-- 'ouroboroslaw17.PushOrder', WHERE WHAT IT READS IS OF BULK AT MOST 1048576: true; the input reads as it did. -/
def pushOrderUptoRow : OpenClaim := { program := "ythfkbabgkacfnaa", sum := "3096da672eaae84b2a69a21701802d411e6cf1af87d503965594845ea4431a20", func := "ouroboros/ouroboroslaw17.PushOrder", spec := "pushOrder", unfollowed := true, recurses := true, apart := false, narrowed := true }
def PushOrderUptoSaid : Prop := pushOrderUptoRow.holds Try.pinned (OpenSpec.upto pushOrderSpec)

/-- 'ouroboroslaw17.PushTwice', WHERE WHAT IT READS IS OF BULK AT MOST 1048576: true; the input reads as it did. -/
def pushTwiceUptoRow : OpenClaim := { program := "ythfkbabgkacfnaa", sum := "3096da672eaae84b2a69a21701802d411e6cf1af87d503965594845ea4431a20", func := "ouroboros/ouroboroslaw17.PushTwice", spec := "pushTwice", unfollowed := true, recurses := true, apart := false, narrowed := true }
def PushTwiceUptoSaid : Prop := pushTwiceUptoRow.holds Try.pinned (OpenSpec.upto pushTwiceSpec)

/-- 'ouroboroslaw17.PushResets', WHERE WHAT IT READS IS OF BULK AT MOST 1048576: true; the input reads as it did. -/
def pushResetsUptoRow : OpenClaim := { program := "ythfkbabgkacfnaa", sum := "3096da672eaae84b2a69a21701802d411e6cf1af87d503965594845ea4431a20", func := "ouroboros/ouroboroslaw17.PushResets", spec := "pushResets", unfollowed := true, recurses := true, apart := false, narrowed := true }
def PushResetsUptoSaid : Prop := pushResetsUptoRow.holds Try.pinned (OpenSpec.upto pushResetsSpec)

/-- 'ouroboroslaw17.PushAgain', WHERE WHAT IT READS IS OF BULK AT MOST 1048576: true; the input reads as it did. -/
def pushAgainUptoRow : OpenClaim := { program := "ythfkbabgkacfnaa", sum := "3096da672eaae84b2a69a21701802d411e6cf1af87d503965594845ea4431a20", func := "ouroboros/ouroboroslaw17.PushAgain", spec := "pushAgain", unfollowed := true, recurses := true, apart := false, narrowed := true }
def PushAgainUptoSaid : Prop := pushAgainUptoRow.holds Try.pinned (OpenSpec.upto pushAgainSpec)

end Rows
end Go.Proofs.Ythfkbabgkacfnaa
