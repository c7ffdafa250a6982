/- EntryGets: the entry of any bytes. -/
import Derived.Test.YtbijobepjjokmaaGh5
import Derived.Test.YtbijobepjjokmaaSf2
namespace Go.Proofs.Ytbijobepjjokmaa
open Go Go.RowKit
set_option linter.unusedVariables false
set_option linter.unusedSimpArgs false

theorem sm_getE (s:Str):sm (getE s).1.val:=by
 unfold getE
 cases ((putE (readE s)).2 != 0)||!((putE (readE s)).1==s) with
 | true=>exact (by decide:sm zeroV)
 | false=>exact sm_readV _ _
theorem entryGets_ev (s:Str) (hs:shortL s):law07_EntryGets_raw s true:=by
 refine ⟨fun h=>(by cases h),fun _=>⟨fun _=>rfl,fun f1=>?_⟩⟩
 simp only [decide_eq_false_iff_not] at f1
 refine ⟨by unfold okG; omega,_,rfl,_,rfl,sm_getE s,?_⟩
 simp only [sameE_self,beq_self_eq_true,Bool.and_self]
end Go.Proofs.Ytbijobepjjokmaa
