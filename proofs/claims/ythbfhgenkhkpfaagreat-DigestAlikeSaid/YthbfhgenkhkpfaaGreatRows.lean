/-
  No cell of these rows narrows 'for every input' (looked for: loops, veiled, ifaces, maps, wideKeys, modest, calm, conditions, laid).
  DERIVED. THE GIVEN ROWS OF THIS SEAT. 6 by the template 'for every input the law returns true; each argument reads behind the call as it read before'; 0 by the template 'total and deterministic' (their statements: YthbfhgenkhkpfaaGreatTotals.lean).
  GIVEN WITH THE SEED: the statements are not yours to turn. If you find one false, say at which input.
  Laid BY PROGRAM, IN A SANDBOX (cutbox-rows.mjs): the forced cells as the released guide's own fill.sh prints them over the translation e5977a04378a9189… (all of the seat's roots in one cut). By AI agents, Wed Nov 11 2026. No macro, syntax, notation, axiom, sorry.
-/
import Derived.Test.YthbfhgenkhkpfaaGreatChecked
import GoSem.Claim
import GoSem.ClaimJoined
import GoSem.ClaimMapViews
import Derived.JoinedTies
import Derived.KernelRfl
namespace Go.Proofs.YthbfhgenkhkpfaaGreat
/- THE CELL 'sum', in the pinned program and in every row, IS THE sha256 OF THE DUMP (.gsa) THAT YthbfhgenkhkpfaaGreatProg.lean LOADS. Nothing in Lean hashes anything: it is a label: what it is worth is what the hold of that sum in a sandbox is worth. -/
noncomputable def Tryz.pinned : Pinned := { name := "ythbfhgenkhkpfaagreat", sum := "e5977a04378a91893cb93f2ce49e5c628da9735a24277c204877c43f8a9003fc", checked := Tryz.checked }
namespace Rows
def none {H : Type} : Left H := { results := [], args := [] }

/-- 'ouroboroslaw10.DigestTells': WHATEVER THE INPUT: true; the input reads as it did. -/
def digestTellsSpec : ChangeSpec := { name := "digestTells", fn := fun _ => fun
  | [d1, d2, d3, d4, d5, d6, d7] => { results := [.lit (.bool true)], args := [d1, d2, d3, d4, d5, d6, d7] }
  | _ => none }
def digestTellsRow : OpenClaim := { program := "ythbfhgenkhkpfaagreat", sum := "e5977a04378a91893cb93f2ce49e5c628da9735a24277c204877c43f8a9003fc", func := "ouroboros/ouroboroslaw10.DigestTells", spec := "digestTells", inPlace := ["internal/abi.NoEscape", "sync/atomic.LoadUint32", "(*internal/sync.Mutex).Lock", "internal/race.Disable", "sync/atomic.CompareAndSwapInt32", "internal/race.Enable", "internal/race.Acquire", "(*internal/sync.Mutex).lockSlow", "internal/sync.runtime_canSpin", "internal/sync.runtime_doSpin", "internal/sync.throw", "internal/sync.runtime_nanotime", "internal/sync.runtime_SemacquireMutex", "sync/atomic.AddInt32", "(*internal/sync.Mutex).Unlock", "internal/race.ReleaseMerge", "(*internal/sync.Mutex).unlockSlow", "internal/sync.fatal", "internal/sync.runtime_Semrelease", "sync/atomic.StoreUint32"], unfollowed := true, recurses := true, apart := false }
def DigestTellsSaid : Prop := digestTellsRow.holds Tryz.pinned (OpenSpec.ofChange digestTellsSpec)

/-- ITS FALSE NEIGHBOUR: 'it returns false'. Refute it at one input. -/
def digestTellsWrong : ChangeSpec := { name := "digestTells", fn := fun _ => fun
  | [d1, d2, d3, d4, d5, d6, d7] => { results := [.lit (.bool false)], args := [d1, d2, d3, d4, d5, d6, d7] }
  | _ => none }
def DigestTellsWrongFalsely : Prop := digestTellsRow.holds Tryz.pinned (OpenSpec.ofChange digestTellsWrong)

/-- 'ouroboroslaw10.DigestBytes': WHATEVER THE INPUT: true; the input reads as it did. -/
def digestBytesSpec : ChangeSpec := { name := "digestBytes", fn := fun _ => fun
  | [d1, d2] => { results := [.lit (.bool true)], args := [d1, d2] }
  | _ => none }
def digestBytesRow : OpenClaim := { program := "ythbfhgenkhkpfaagreat", sum := "e5977a04378a91893cb93f2ce49e5c628da9735a24277c204877c43f8a9003fc", func := "ouroboros/ouroboroslaw10.DigestBytes", spec := "digestBytes", inPlace := ["internal/abi.NoEscape", "sync/atomic.LoadUint32", "(*internal/sync.Mutex).Lock", "internal/race.Disable", "sync/atomic.CompareAndSwapInt32", "internal/race.Enable", "internal/race.Acquire", "(*internal/sync.Mutex).lockSlow", "internal/sync.runtime_canSpin", "internal/sync.runtime_doSpin", "internal/sync.throw", "internal/sync.runtime_nanotime", "internal/sync.runtime_SemacquireMutex", "sync/atomic.AddInt32", "(*internal/sync.Mutex).Unlock", "internal/race.ReleaseMerge", "(*internal/sync.Mutex).unlockSlow", "internal/sync.fatal", "internal/sync.runtime_Semrelease", "sync/atomic.StoreUint32"], unfollowed := true, recurses := true, apart := false }
def DigestBytesSaid : Prop := digestBytesRow.holds Tryz.pinned (OpenSpec.ofChange digestBytesSpec)

/-- ITS FALSE NEIGHBOUR: 'it returns false'. Refute it at one input. -/
def digestBytesWrong : ChangeSpec := { name := "digestBytes", fn := fun _ => fun
  | [d1, d2] => { results := [.lit (.bool false)], args := [d1, d2] }
  | _ => none }
def DigestBytesWrongFalsely : Prop := digestBytesRow.holds Tryz.pinned (OpenSpec.ofChange digestBytesWrong)

/-- 'ouroboroslaw10.DigestChanges': WHATEVER THE INPUT: true; the input reads as it did. -/
def digestChangesSpec : ChangeSpec := { name := "digestChanges", fn := fun _ => fun
  | [d1, d2] => { results := [.lit (.bool true)], args := [d1, d2] }
  | _ => none }
def digestChangesRow : OpenClaim := { program := "ythbfhgenkhkpfaagreat", sum := "e5977a04378a91893cb93f2ce49e5c628da9735a24277c204877c43f8a9003fc", func := "ouroboros/ouroboroslaw10.DigestChanges", spec := "digestChanges", inPlace := ["internal/abi.NoEscape", "sync/atomic.LoadUint32", "(*internal/sync.Mutex).Lock", "internal/race.Disable", "sync/atomic.CompareAndSwapInt32", "internal/race.Enable", "internal/race.Acquire", "(*internal/sync.Mutex).lockSlow", "internal/sync.runtime_canSpin", "internal/sync.runtime_doSpin", "internal/sync.throw", "internal/sync.runtime_nanotime", "internal/sync.runtime_SemacquireMutex", "sync/atomic.AddInt32", "(*internal/sync.Mutex).Unlock", "internal/race.ReleaseMerge", "(*internal/sync.Mutex).unlockSlow", "internal/sync.fatal", "internal/sync.runtime_Semrelease", "sync/atomic.StoreUint32"], unfollowed := true, recurses := true, apart := false }
def DigestChangesSaid : Prop := digestChangesRow.holds Tryz.pinned (OpenSpec.ofChange digestChangesSpec)

/-- ITS FALSE NEIGHBOUR: 'it returns false'. Refute it at one input. -/
def digestChangesWrong : ChangeSpec := { name := "digestChanges", fn := fun _ => fun
  | [d1, d2] => { results := [.lit (.bool false)], args := [d1, d2] }
  | _ => none }
def DigestChangesWrongFalsely : Prop := digestChangesRow.holds Tryz.pinned (OpenSpec.ofChange digestChangesWrong)

/-- 'ouroboroslaw10.DigestIn': WHATEVER THE INPUT: true; the input reads as it did. -/
def digestInSpec : ChangeSpec := { name := "digestIn", fn := fun _ => fun
  | [d1, d2, d3] => { results := [.lit (.bool true)], args := [d1, d2, d3] }
  | _ => none }
def digestInRow : OpenClaim := { program := "ythbfhgenkhkpfaagreat", sum := "e5977a04378a91893cb93f2ce49e5c628da9735a24277c204877c43f8a9003fc", func := "ouroboros/ouroboroslaw10.DigestIn", spec := "digestIn", inPlace := ["internal/abi.NoEscape", "sync/atomic.LoadUint32", "(*internal/sync.Mutex).Lock", "internal/race.Disable", "sync/atomic.CompareAndSwapInt32", "internal/race.Enable", "internal/race.Acquire", "(*internal/sync.Mutex).lockSlow", "internal/sync.runtime_canSpin", "internal/sync.runtime_doSpin", "internal/sync.throw", "internal/sync.runtime_nanotime", "internal/sync.runtime_SemacquireMutex", "sync/atomic.AddInt32", "(*internal/sync.Mutex).Unlock", "internal/race.ReleaseMerge", "(*internal/sync.Mutex).unlockSlow", "internal/sync.fatal", "internal/sync.runtime_Semrelease", "sync/atomic.StoreUint32"], unfollowed := true, recurses := true, apart := false }
def DigestInSaid : Prop := digestInRow.holds Tryz.pinned (OpenSpec.ofChange digestInSpec)

/-- ITS FALSE NEIGHBOUR: 'it returns false'. Refute it at one input. -/
def digestInWrong : ChangeSpec := { name := "digestIn", fn := fun _ => fun
  | [d1, d2, d3] => { results := [.lit (.bool false)], args := [d1, d2, d3] }
  | _ => none }
def DigestInWrongFalsely : Prop := digestInRow.holds Tryz.pinned (OpenSpec.ofChange digestInWrong)

/-- 'ouroboroslaw10.DigestSteps': WHATEVER THE INPUT: true; the input reads as it did. -/
def digestStepsSpec : ChangeSpec := { name := "digestSteps", fn := fun _ => fun
  | [d1, d2] => { results := [.lit (.bool true)], args := [d1, d2] }
  | _ => none }
def digestStepsRow : OpenClaim := { program := "ythbfhgenkhkpfaagreat", sum := "e5977a04378a91893cb93f2ce49e5c628da9735a24277c204877c43f8a9003fc", func := "ouroboros/ouroboroslaw10.DigestSteps", spec := "digestSteps", inPlace := ["internal/abi.NoEscape", "sync/atomic.LoadUint32", "(*internal/sync.Mutex).Lock", "internal/race.Disable", "sync/atomic.CompareAndSwapInt32", "internal/race.Enable", "internal/race.Acquire", "(*internal/sync.Mutex).lockSlow", "internal/sync.runtime_canSpin", "internal/sync.runtime_doSpin", "internal/sync.throw", "internal/sync.runtime_nanotime", "internal/sync.runtime_SemacquireMutex", "sync/atomic.AddInt32", "(*internal/sync.Mutex).Unlock", "internal/race.ReleaseMerge", "(*internal/sync.Mutex).unlockSlow", "internal/sync.fatal", "internal/sync.runtime_Semrelease", "sync/atomic.StoreUint32"], unfollowed := true, recurses := true, apart := false }
def DigestStepsSaid : Prop := digestStepsRow.holds Tryz.pinned (OpenSpec.ofChange digestStepsSpec)

/-- ITS FALSE NEIGHBOUR: 'it returns false'. Refute it at one input. -/
def digestStepsWrong : ChangeSpec := { name := "digestSteps", fn := fun _ => fun
  | [d1, d2] => { results := [.lit (.bool false)], args := [d1, d2] }
  | _ => none }
def DigestStepsWrongFalsely : Prop := digestStepsRow.holds Tryz.pinned (OpenSpec.ofChange digestStepsWrong)

/-- 'ouroboroslaw10.DigestAlike': WHATEVER THE INPUT: true; the input reads as it did. -/
def digestAlikeSpec : ChangeSpec := { name := "digestAlike", fn := fun _ => fun
  | [d1, d2] => { results := [.lit (.bool true)], args := [d1, d2] }
  | _ => none }
def digestAlikeRow : OpenClaim := { program := "ythbfhgenkhkpfaagreat", sum := "e5977a04378a91893cb93f2ce49e5c628da9735a24277c204877c43f8a9003fc", func := "ouroboros/ouroboroslaw10.DigestAlike", spec := "digestAlike", inPlace := ["internal/abi.NoEscape", "sync/atomic.LoadUint32", "(*internal/sync.Mutex).Lock", "internal/race.Disable", "sync/atomic.CompareAndSwapInt32", "internal/race.Enable", "internal/race.Acquire", "(*internal/sync.Mutex).lockSlow", "internal/sync.runtime_canSpin", "internal/sync.runtime_doSpin", "internal/sync.throw", "internal/sync.runtime_nanotime", "internal/sync.runtime_SemacquireMutex", "sync/atomic.AddInt32", "(*internal/sync.Mutex).Unlock", "internal/race.ReleaseMerge", "(*internal/sync.Mutex).unlockSlow", "internal/sync.fatal", "internal/sync.runtime_Semrelease", "sync/atomic.StoreUint32"], unfollowed := true, recurses := true, apart := false }
def DigestAlikeSaid : Prop := digestAlikeRow.holds Tryz.pinned (OpenSpec.ofChange digestAlikeSpec)

/-- ITS FALSE NEIGHBOUR: 'it returns false'. Refute it at one input. -/
def digestAlikeWrong : ChangeSpec := { name := "digestAlike", fn := fun _ => fun
  | [d1, d2] => { results := [.lit (.bool false)], args := [d1, d2] }
  | _ => none }
def DigestAlikeWrongFalsely : Prop := digestAlikeRow.holds Tryz.pinned (OpenSpec.ofChange digestAlikeWrong)

/- THE SECOND FORM. 'bulk': how many values and letters a reading holds, each counted each time it is reached (what is shared counts as often as it is met; a slice's spare places count too). A statement '..UptoSaid' is the law's where the arguments, and the package variables that the reading takes, are together of bulk at most 1048576: NARROWER than '..Said'. Prove '..Said' where nothing that the law and all that it calls make is longer than what came in: it says more and counts as full. Else prove '..UptoSaid'. A law counts once. -/
mutual
def uptoBulk {H : Type} : DataW H → Nat
  | .lit (.string bytes) => bytes.length + 1
  | .lit _ => 1
  | .nil => 1
  | .ptr d => uptoBulk d + 1
  | .slice elems spare => uptoBulkAll elems + uptoBulkAll spare + 1
  | .agg parts => uptoBulkAll parts + 1
  | .iface _ d => uptoBulk d + 1
  | .map entries => uptoBulkEntries entries + 1
  | .held _ => 1
def uptoBulkAll {H : Type} : List (DataW H) → Nat
  | [] => 0
  | d :: r => uptoBulk d + uptoBulkAll r
def uptoBulkEntries {H : Type} : List (Lit × DataW H) → Nat
  | [] => 0
  | x :: r => uptoBulkEntry x + uptoBulkEntries r
def uptoBulkEntry {H : Type} : Lit × DataW H → Nat
  | (.string bytes, d) => bytes.length + uptoBulk d + 1
  | (_, d) => uptoBulk d + 1
 end
def uptoSmall : (H : Type) → List (DataW H) → Bool := fun _ ds => decide (uptoBulkAll ds ≤ 1048576)
def OpenSpec.upto (s : _root_.Go.ChangeSpec) : _root_.Go.OpenSpec := { _root_.Go.OpenSpec.ofChange s with cond := some uptoSmall }

/-- 'ouroboroslaw10.DigestTells', WHERE WHAT IT READS IS OF BULK AT MOST 1048576: true; the input reads as it did. -/
def digestTellsUptoRow : OpenClaim := { program := "ythbfhgenkhkpfaagreat", sum := "e5977a04378a91893cb93f2ce49e5c628da9735a24277c204877c43f8a9003fc", func := "ouroboros/ouroboroslaw10.DigestTells", spec := "digestTells", inPlace := ["internal/abi.NoEscape", "sync/atomic.LoadUint32", "(*internal/sync.Mutex).Lock", "internal/race.Disable", "sync/atomic.CompareAndSwapInt32", "internal/race.Enable", "internal/race.Acquire", "(*internal/sync.Mutex).lockSlow", "internal/sync.runtime_canSpin", "internal/sync.runtime_doSpin", "internal/sync.throw", "internal/sync.runtime_nanotime", "internal/sync.runtime_SemacquireMutex", "sync/atomic.AddInt32", "(*internal/sync.Mutex).Unlock", "internal/race.ReleaseMerge", "(*internal/sync.Mutex).unlockSlow", "internal/sync.fatal", "internal/sync.runtime_Semrelease", "sync/atomic.StoreUint32"], unfollowed := true, recurses := true, apart := false, narrowed := true }
def DigestTellsUptoSaid : Prop := digestTellsUptoRow.holds Tryz.pinned (OpenSpec.upto digestTellsSpec)

/-- 'ouroboroslaw10.DigestBytes', WHERE WHAT IT READS IS OF BULK AT MOST 1048576: true; the input reads as it did. -/
def digestBytesUptoRow : OpenClaim := { program := "ythbfhgenkhkpfaagreat", sum := "e5977a04378a91893cb93f2ce49e5c628da9735a24277c204877c43f8a9003fc", func := "ouroboros/ouroboroslaw10.DigestBytes", spec := "digestBytes", inPlace := ["internal/abi.NoEscape", "sync/atomic.LoadUint32", "(*internal/sync.Mutex).Lock", "internal/race.Disable", "sync/atomic.CompareAndSwapInt32", "internal/race.Enable", "internal/race.Acquire", "(*internal/sync.Mutex).lockSlow", "internal/sync.runtime_canSpin", "internal/sync.runtime_doSpin", "internal/sync.throw", "internal/sync.runtime_nanotime", "internal/sync.runtime_SemacquireMutex", "sync/atomic.AddInt32", "(*internal/sync.Mutex).Unlock", "internal/race.ReleaseMerge", "(*internal/sync.Mutex).unlockSlow", "internal/sync.fatal", "internal/sync.runtime_Semrelease", "sync/atomic.StoreUint32"], unfollowed := true, recurses := true, apart := false, narrowed := true }
def DigestBytesUptoSaid : Prop := digestBytesUptoRow.holds Tryz.pinned (OpenSpec.upto digestBytesSpec)

/-- 'ouroboroslaw10.DigestChanges', WHERE WHAT IT READS IS OF BULK AT MOST 1048576: true; the input reads as it did. -/
def digestChangesUptoRow : OpenClaim := { program := "ythbfhgenkhkpfaagreat", sum := "e5977a04378a91893cb93f2ce49e5c628da9735a24277c204877c43f8a9003fc", func := "ouroboros/ouroboroslaw10.DigestChanges", spec := "digestChanges", inPlace := ["internal/abi.NoEscape", "sync/atomic.LoadUint32", "(*internal/sync.Mutex).Lock", "internal/race.Disable", "sync/atomic.CompareAndSwapInt32", "internal/race.Enable", "internal/race.Acquire", "(*internal/sync.Mutex).lockSlow", "internal/sync.runtime_canSpin", "internal/sync.runtime_doSpin", "internal/sync.throw", "internal/sync.runtime_nanotime", "internal/sync.runtime_SemacquireMutex", "sync/atomic.AddInt32", "(*internal/sync.Mutex).Unlock", "internal/race.ReleaseMerge", "(*internal/sync.Mutex).unlockSlow", "internal/sync.fatal", "internal/sync.runtime_Semrelease", "sync/atomic.StoreUint32"], unfollowed := true, recurses := true, apart := false, narrowed := true }
def DigestChangesUptoSaid : Prop := digestChangesUptoRow.holds Tryz.pinned (OpenSpec.upto digestChangesSpec)

/-- 'ouroboroslaw10.DigestIn', WHERE WHAT IT READS IS OF BULK AT MOST 1048576: true; the input reads as it did. -/
def digestInUptoRow : OpenClaim := { program := "ythbfhgenkhkpfaagreat", sum := "e5977a04378a91893cb93f2ce49e5c628da9735a24277c204877c43f8a9003fc", func := "ouroboros/ouroboroslaw10.DigestIn", spec := "digestIn", inPlace := ["internal/abi.NoEscape", "sync/atomic.LoadUint32", "(*internal/sync.Mutex).Lock", "internal/race.Disable", "sync/atomic.CompareAndSwapInt32", "internal/race.Enable", "internal/race.Acquire", "(*internal/sync.Mutex).lockSlow", "internal/sync.runtime_canSpin", "internal/sync.runtime_doSpin", "internal/sync.throw", "internal/sync.runtime_nanotime", "internal/sync.runtime_SemacquireMutex", "sync/atomic.AddInt32", "(*internal/sync.Mutex).Unlock", "internal/race.ReleaseMerge", "(*internal/sync.Mutex).unlockSlow", "internal/sync.fatal", "internal/sync.runtime_Semrelease", "sync/atomic.StoreUint32"], unfollowed := true, recurses := true, apart := false, narrowed := true }
def DigestInUptoSaid : Prop := digestInUptoRow.holds Tryz.pinned (OpenSpec.upto digestInSpec)

/-- 'ouroboroslaw10.DigestSteps', WHERE WHAT IT READS IS OF BULK AT MOST 1048576: true; the input reads as it did. -/
def digestStepsUptoRow : OpenClaim := { program := "ythbfhgenkhkpfaagreat", sum := "e5977a04378a91893cb93f2ce49e5c628da9735a24277c204877c43f8a9003fc", func := "ouroboros/ouroboroslaw10.DigestSteps", spec := "digestSteps", inPlace := ["internal/abi.NoEscape", "sync/atomic.LoadUint32", "(*internal/sync.Mutex).Lock", "internal/race.Disable", "sync/atomic.CompareAndSwapInt32", "internal/race.Enable", "internal/race.Acquire", "(*internal/sync.Mutex).lockSlow", "internal/sync.runtime_canSpin", "internal/sync.runtime_doSpin", "internal/sync.throw", "internal/sync.runtime_nanotime", "internal/sync.runtime_SemacquireMutex", "sync/atomic.AddInt32", "(*internal/sync.Mutex).Unlock", "internal/race.ReleaseMerge", "(*internal/sync.Mutex).unlockSlow", "internal/sync.fatal", "internal/sync.runtime_Semrelease", "sync/atomic.StoreUint32"], unfollowed := true, recurses := true, apart := false, narrowed := true }
def DigestStepsUptoSaid : Prop := digestStepsUptoRow.holds Tryz.pinned (OpenSpec.upto digestStepsSpec)

/-- 'ouroboroslaw10.DigestAlike', WHERE WHAT IT READS IS OF BULK AT MOST 1048576: true; the input reads as it did. -/
def digestAlikeUptoRow : OpenClaim := { program := "ythbfhgenkhkpfaagreat", sum := "e5977a04378a91893cb93f2ce49e5c628da9735a24277c204877c43f8a9003fc", func := "ouroboros/ouroboroslaw10.DigestAlike", spec := "digestAlike", inPlace := ["internal/abi.NoEscape", "sync/atomic.LoadUint32", "(*internal/sync.Mutex).Lock", "internal/race.Disable", "sync/atomic.CompareAndSwapInt32", "internal/race.Enable", "internal/race.Acquire", "(*internal/sync.Mutex).lockSlow", "internal/sync.runtime_canSpin", "internal/sync.runtime_doSpin", "internal/sync.throw", "internal/sync.runtime_nanotime", "internal/sync.runtime_SemacquireMutex", "sync/atomic.AddInt32", "(*internal/sync.Mutex).Unlock", "internal/race.ReleaseMerge", "(*internal/sync.Mutex).unlockSlow", "internal/sync.fatal", "internal/sync.runtime_Semrelease", "sync/atomic.StoreUint32"], unfollowed := true, recurses := true, apart := false, narrowed := true }
def DigestAlikeUptoSaid : Prop := digestAlikeUptoRow.holds Tryz.pinned (OpenSpec.upto digestAlikeSpec)

end Rows
end Go.Proofs.YthbfhgenkhkpfaaGreat
