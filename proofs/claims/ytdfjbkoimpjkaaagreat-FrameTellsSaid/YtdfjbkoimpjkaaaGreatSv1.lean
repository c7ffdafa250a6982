/- FrameTells: whether any is a frame, its bytes, and whether two are alike. -/
import Derived.Test.YtdfjbkoimpjkaaaGreatGkTells
import Derived.Test.YtdfjbkoimpjkaaaGreatVq
namespace Go.Proofs.YtdfjbkoimpjkaaaGreat
open Go Go.RowKit
set_option linter.unusedVariables false
set_option linter.unusedSimpArgs false

theorem frameTells_row (a b:Frm) (ga:GFrm a) (gb:GFrm b):law14_FrameTells_raw a b true:=by
 refine ⟨fun h=>(by cases h),fun _=>⟨by decide,fun _=>by decide,fun _=>rfl,fun f1=>?_⟩⟩
 have f1:=of_not f1
 have s0:=gs_sml ga.2.2.2.2
 have lf:=ents12 (andL f1)
 have ms:=max4 ga.2.2.2.1.2
 have wf:=gs_wfl ga.2.2.2.2
 refine ⟨_,rfl,s0,lf,ms,s0,_,rfl,_,rfl,s0,lf,ms,wf,_,rfl,_,rfl,_,rfl,ga.2.2.2.1.1,gb.2.2.2.1.1,s0,s0,fun _=>s0,?_⟩
 simp only [ofF,okFr,beq_self_eq_true,Bool.and_self]
end Go.Proofs.YtdfjbkoimpjkaaaGreat
