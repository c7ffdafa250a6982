/- Arenas that are few: how small they are. -/
import Derived.Test.YthhjcijhanacnaaEx
import Derived.Test.YthhjcijhanacnaaSf2
namespace Go.Proofs.Ythhjcijhanacnaa
open Go Go.RowKit
set_option linter.unusedVariables false
set_option linter.unusedSimpArgs false

theorem fewA_sma {a:Arena} (h:fewA a=true):sma a:=by
 unfold fewA at h
 have h1:=andL h
 have h2:=andR h
 have h3:(a.slots.length:Int)≤12:=by unfold entriesB at h1; simpa using andL h1
 simp only [decide_eq_true_eq] at h2
 exact ⟨entriesB_sml h1 (by decide),by omega,by omega⟩
theorem wfl_of {l:List Ent} (h:Gs_api_Entry l):wfl l:=fun e he=>(h.2 e he).2.1
theorem sma_merge {a:Arena} {l:List Ent} (ha:sma a) (hl:sml l):sma (mergeA a l).1:=by
 have:=(merge_inv ha hl l.length (Nat.le_refl _)).1
 rwa [List.take_length] at this
end Go.Proofs.Ythhjcijhanacnaa
