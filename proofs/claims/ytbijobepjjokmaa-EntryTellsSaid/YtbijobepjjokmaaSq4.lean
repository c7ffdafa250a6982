/- EntryTells: what the document says of entries. -/
import Derived.Test.YtbijobepjjokmaaGh4
import Derived.Test.YtbijobepjjokmaaSf2
namespace Go.Proofs.Ytbijobepjjokmaa
open Go Go.RowKit
set_option linter.unusedVariables false
set_option linter.unusedSimpArgs false

theorem sm_joinE4 {a b:Ent} (ha:sm a.val) (hb:sm b.val):sm (joinE a b).1.val:=by
 unfold joinE
 cases okE a <;> cases okE b <;> cases nameE a b <;> first | exact sm_join ha hb | exact (by decide:sm zeroV)
theorem entryTells_ev (a b:Ent) (ga:GEnt a) (gb:GEnt b):law07_EntryTells_raw a b true:=by
 refine ⟨fun h=>(by cases h),fun _=>⟨fun _=>rfl,fun f1=>?_⟩⟩
 have f1:=of_not f1
 have sa:=fewE_sm (andL f1)
 have sb:=fewE_sm (andR f1)
 have sj:=sm_joinE4 sa sb
 have wa:=ga.2.1
 have wb:=gb.2.1
 repeat' first
  | (refine ⟨_,rfl,?_⟩)
  | (refine ⟨?_,?_⟩; assumption)
  | (refine ⟨fun _=>?_,?_⟩; assumption)
 simp only [checkE_eq,sameE_self,beq_self_eq_true,Bool.and_self]
end Go.Proofs.Ytbijobepjjokmaa
