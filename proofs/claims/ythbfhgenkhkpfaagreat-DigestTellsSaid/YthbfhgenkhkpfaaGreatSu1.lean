/- DigestTells. -/
import Derived.Test.YthbfhgenkhkpfaaGreatGjTells
import Derived.Test.YthbfhgenkhkpfaaGreatSf5
namespace Go.Proofs.YthbfhgenkhkpfaaGreat
open Go Go.RowKit
set_option linter.unusedVariables false
set_option linter.unusedSimpArgs false
theorem in_sml {a:Arena} (h:sma a) (m k:Int):sml (inD a m k):=by
 unfold inD
 cases (arOk a&&okM m) with
 | false=>exact ⟨Nat.zero_le _,fun e h=>by cases h⟩
 | true =>
  rw [cond_true]
  refine sml_sub h.1 (fun e he=>?_) (Nat.le_trans (inL_len m k _) h.2.1)
  exact (List.mem_filter.1 (List.mem_of_mem_take he)).1
theorem digestTells_row (a:Arena) (k:Int) (key:Str) (x y:List Int) (m n:Int) (ga:GArena a) (w1:inK .i64 k) (g2:shortL key) (g3:x.length=4∧∀ n∈x,inI n) (g4:y.length=4∧∀ n∈y,inI n) (w5:inK .i64 m) (w6:inK .i64 n):law10_DigestTells_raw a k key x y m n true:=by
 refine ⟨fun h=>(by cases h),fun _=>⟨fun _=>rfl,fun f1=>?_⟩⟩
 have f1':fewA a=true∧key.length≤100:=by
  simp only [Bool.or_eq_false_iff,Bool.not_eq_false',decide_eq_false_iff_not] at f1
  exact ⟨f1.1,by omega⟩
 obtain ⟨hf,hk⟩:=f1'
 have sa:=fewA_sma hf
 refine ⟨by omega,sa,wfl_of ga.2.1,_,rfl,sa,_,rfl,sa,_,rfl,in_sml sa _ _,fun _=>⟨by omega,sa,_,rfl,sumsD_length a,?_⟩,fun c=>by simp at c⟩
 rw [allE_self]; simp
end Go.Proofs.YthbfhgenkhkpfaaGreat
