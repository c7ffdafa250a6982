/- FrameGets: the frame of any bytes. -/
import Derived.Test.YtdfjbkoimpjkaaaGreatGkGets
import Derived.Test.YtdfjbkoimpjkaaaGreatVq
namespace Go.Proofs.YtdfjbkoimpjkaaaGreat
open Go Go.RowKit
set_option linter.unusedVariables false
set_option linter.unusedSimpArgs false

theorem frameGets_row (s:Str) (gs:shortL s):law14_FrameGets_raw s true:=by
 refine ⟨fun h=>(by cases h),fun _=>⟨fun _=>rfl,fun f1=>?_⟩⟩
 simp only [decide_eq_false_iff_not] at f1
 refine ⟨by omega,_,rfl,by omega,_,rfl,_,rfl,getFr_sums s,(sml_getFr s).1,?_⟩
 simp only [ofF,same_self,beq_self_eq_true,Bool.and_self]
end Go.Proofs.YtdfjbkoimpjkaaaGreat
