/- Arenas that are few: how small they are. -/
import Derived.Test.YthhjcijhanacnaaGreatEw
import Derived.Test.YthhjcijhanacnaaGreatSf2
namespace Go.Proofs.YthhjcijhanacnaaGreat
open Go Go.RowKit
set_option linter.unusedVariables false
set_option linter.unusedSimpArgs false

theorem fewA_sma {a:Arena} (h:fewA a=true):sma a:=by
 unfold fewA at h
 have h1:=andL h
 have h2:=andR h
 have h3:(a.slots.length:Int)≤12:=by unfold entriesB at h1; simpa using andL h1
 simp only [decide_eq_true_eq] at h2
 exact ⟨entriesB_sml h1 (by decide),by omega,by omega⟩
end Go.Proofs.YthhjcijhanacnaaGreat
