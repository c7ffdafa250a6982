/- EntryUnlike: entries that are not alike have other bytes; all have 42. -/
import Derived.Test.YtbijobepjjokmaaGh3
import Derived.Test.YtbijobepjjokmaaHl
import Derived.Test.YtbijobepjjokmaaSf2
namespace Go.Proofs.Ytbijobepjjokmaa
open Go Go.RowKit
set_option linter.unusedVariables false
set_option linter.unusedSimpArgs false

theorem entryUnlike_ev (a b:Ent) (ga:GEnt a) (gb:GEnt b):law07_EntryUnlike_raw a b true:=by
 refine ⟨fun h=>(by cases h),fun _=>⟨fun _=>rfl,fun f1=>?_⟩⟩
 have f1:=of_not f1
 have sa:=fewE_sm (andL f1)
 have sb:=fewE_sm (andR f1)
 refine ⟨sa,_,rfl,sb,_,rfl,fun _=>rfl,fun h=>?_⟩
 have okp:∀ e:Ent,((putE e).2 != 0)=false→okE e=true:=fun e he=>by
  cases h1:okE e with
  | true=>rfl
  | false=>exfalso; unfold putE at he; rw [h1] at he; simp at he
 have oa:okE a=true:=okp a (by cases hx:(putE a).2 != 0 <;> simp_all)
 have ob:okE b=true:=okp b (by cases hx:(putE b).2 != 0 <;> simp_all)
 have ea:putE a=(putT a,0):=by unfold putE; rw [oa]; rfl
 have eb:putE b=(putT b,0):=by unfold putE; rw [ob]; rfl
 obtain ⟨la,ra,_⟩:=putT_parts oa ga.2.1.flags
 obtain ⟨lb,rb,_⟩:=putT_parts ob gb.2.1.flags
 rw [ea,eb]
 simp only [la,lb]
 have hs:(putT a==putT b)=sameE a b:=by
  by_cases hab:a=b
  ·subst hab; rw [sameE_self]; simp
  ·have h1:sameE a b=false:=by
    cases hs:sameE a b
    ·rfl
    ·exact absurd (sameE_iff.1 hs) hab
   rw [h1]
   simp only [beq_eq_false_iff_ne]
   exact fun c=>hab (putT_inj oa ob ga.2.1.flags gb.2.1.flags c)
 rw [hs]
 refine ⟨fun _=>sa,?_⟩
 simp
end Go.Proofs.Ytbijobepjjokmaa
