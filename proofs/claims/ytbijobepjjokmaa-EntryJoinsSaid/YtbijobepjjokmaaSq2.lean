/- EntryJoins: two of one name come together as their values do. -/
import Derived.Test.YtbijobepjjokmaaGh2
import Derived.Test.YtbijobepjjokmaaSf2
namespace Go.Proofs.Ytbijobepjjokmaa
open Go Go.RowKit
set_option linter.unusedVariables false
set_option linter.unusedSimpArgs false

theorem sm_joinE' {a b:Ent} (ha:sm a.val) (hb:sm b.val):sm (joinE a b).1.val:=by
 unfold joinE
 cases okE a <;> cases okE b <;> cases nameE a b <;> first | exact sm_join ha hb | exact (by decide:sm zeroV)
theorem entryJoins_ev (a b:Ent) (ga:GEnt a) (gb:GEnt b):law07_EntryJoins_raw a b true:=by
 refine ⟨fun h=>(by cases h),fun _=>⟨fun _=>rfl,fun f1=>?_⟩⟩
 have f1:=of_not f1
 have sa:=fewE_sm (andL f1)
 have sb:=fewE_sm (andR f1)
 have sj:=sm_joinE' sa sb
 refine ⟨sa,sb,_,rfl,sa,sb,_,rfl,fun h=>⟨sj,_,rfl,?_⟩,fun h=>⟨sb,sa,_,rfl,fun _=>sj,fun _=>sj,fun _=>sj,?_⟩⟩
 ·have:(joinE a b).1=zeroE:=by
   revert h; unfold joinE
   cases okE a <;> cases okE b <;> cases nameE a b <;> simp
  rw [this]; exact (sameE_self zeroE).symm
 ·have hh:okE a=true∧okE b=true∧nameE a b=true:=by revert h; unfold joinE; cases okE a <;> cases okE b <;> cases nameE a b <;> simp
  obtain ⟨ha,hb,hn⟩:=hh
  have e1:joinE a b=(⟨a.key,(joinV a.val b.val).1⟩,0):=by unfold joinE; rw [ha,hb,hn]; rfl
  have hn':=nameE_iff.1 hn
  have hn2:nameE b a=true:=nameE_iff.2 ⟨hn'.1.symm,hn'.2.symm⟩
  have e2:joinE b a=(⟨b.key,(joinV b.val a.val).1⟩,0):=by unfold joinE; rw [ha,hb,hn2]; rfl
  have oa:okV a.val=true:=andR (andR ha)
  have ob:okV b.val=true:=andR (andR hb)
  have o2:Ok2 a.val b.val:=⟨oa,ob,hn'.1⟩
  have o3:Ok2 b.val a.val:=o2.symm
  have hc:(joinV a.val b.val).1=(joinV b.val a.val).1:=J_comm o2 ga.2.1 gb.2.1
  have hj:okV (joinV b.val a.val).1=true:=(o3.j ⟨oa,oa,rfl⟩).l
  have hk:okE ⟨a.key,(joinV b.val a.val).1⟩=true:=by
   have q1:=andL ha
   have q2:=andL (andR ha)
   show (decide (1≤a.key.length)&&(decide (a.key.length≤8)&&okV (joinV b.val a.val).1))=true
   rw [q1,q2,hj]; rfl
  rw [e1,e2,(joinV_2 _ _).2 o2,hc,← hn'.2]
  simp only [checkE_eq,hk,sameV_self,sameE_self,beq_self_eq_true,Bool.and_self]
end Go.Proofs.Ytbijobepjjokmaa
