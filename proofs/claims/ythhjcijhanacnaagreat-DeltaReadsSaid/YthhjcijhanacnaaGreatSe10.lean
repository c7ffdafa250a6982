/- Arenas that are few: how small they are. -/
import Derived.Test.YthhjcijhanacnaaGreatEw
import Derived.Test.YthhjcijhanacnaaGreatSf2
namespace Go.Proofs.YthhjcijhanacnaaGreat
open Go Go.RowKit
set_option linter.unusedVariables false
set_option linter.unusedSimpArgs false

theorem fewA_sma {a:Arena} (h:fewA a=true):sma a:=by
 unfold fewA at h
 have h1:=andL h
 have h2:=andR h
 have h3:(a.slots.length:Int)≤12:=by unfold entriesB at h1; simpa using andL h1
 simp only [decide_eq_true_eq] at h2
 exact ⟨entriesB_sml h1 (by decide),by omega,by omega⟩
theorem sml_sub {l m:List Ent} (h:sml l) (hs:∀ e∈m,e∈l) (hl:m.length≤9223372036854775807):sml m:=⟨hl,fun e he=>h.2 e (hs e he)⟩
theorem all_sml {a:Arena} (h:sma a):sml (allA a):=by
 unfold allA
 cases ho:arOk a with
 | false=>exact ⟨Nat.zero_le _,fun e h=>by cases h⟩
 | true =>
  rw [cond_true]
  have h3:=h.2.2
  refine ⟨by rw [List.length_map]; omega,fun e he=>?_⟩
  obtain ⟨i,hi,rfl⟩:=List.mem_map.1 he
  have hix:=(arOk_iff.1 ho).2.2.2
  rw [hix] at hi
  have:=idR_mem.1 ((idxR_perm _).mem_iff.1 hi)
  exact sml_nth h.1 this.1 this.2
end Go.Proofs.YthhjcijhanacnaaGreat
