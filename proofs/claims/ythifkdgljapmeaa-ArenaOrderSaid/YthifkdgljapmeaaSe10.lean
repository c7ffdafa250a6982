/- Arenas that are few: how small they are. -/
import Derived.Test.YthifkdgljapmeaaEx
import Derived.Test.YthifkdgljapmeaaSf2
namespace Go.Proofs.Ythifkdgljapmeaa
open Go Go.RowKit
set_option linter.unusedVariables false
set_option linter.unusedSimpArgs false

theorem fewA_sma {a:Arena} (h:fewA a=true):sma a:=by
 unfold fewA at h
 have h1:=andL h
 have h2:=andR h
 have h3:(a.slots.length:Int)≤12:=by unfold entriesB at h1; simpa using andL h1
 simp only [decide_eq_true_eq] at h2
 exact ⟨entriesB_sml h1 (by decide),by omega,by omega⟩
theorem all_sml {a:Arena} (h:sma a):sml (allA a):=by
 unfold allA
 cases ho:arOk a with
 | false=>exact ⟨Nat.zero_le _,fun e h=>by cases h⟩
 | true =>
  rw [cond_true]
  have h3:=h.2.2
  refine ⟨by rw [List.length_map]; omega,fun e he=>?_⟩
  obtain ⟨i,hi,rfl⟩:=List.mem_map.1 he
  have hix:=(arOk_iff.1 ho).2.2.2
  rw [hix] at hi
  have:=idR_mem.1 ((idxR_perm _).mem_iff.1 hi)
  exact sml_nth h.1 this.1 this.2
theorem wfl_of {l:List Ent} (h:Gs_api_Entry l):wfl l:=fun e he=>(h.2 e he).2.1
theorem sma_merge {a:Arena} {l:List Ent} (ha:sma a) (hl:sml l):sma (mergeA a l).1:=by
 have:=(merge_inv ha hl l.length (Nat.le_refl _)).1
 rwa [List.take_length] at this
end Go.Proofs.Ythifkdgljapmeaa
