/- EntryOrder: of two names one is ahead, or they are one. -/
import Derived.Test.YtbijobepjjokmaaGh1
import Derived.Test.YtbijobepjjokmaaSf2
namespace Go.Proofs.Ytbijobepjjokmaa
open Go Go.RowKit
set_option linter.unusedVariables false
set_option linter.unusedSimpArgs false

theorem entryOrder_ev (a b c:Ent) (ga:GEnt a) (gb:GEnt b) (gc:GEnt c):law07_EntryOrder_raw a b c true:=by
 refine ⟨fun h=>(by cases h),fun _=>⟨fun _=>rfl,fun f1=>?_⟩⟩
 have f1:=of_not f1
 have sa:=fewE_sm (andL (andL f1))
 have sb:=fewE_sm (andR (andL f1))
 refine ⟨sa,sb,_,rfl,fun h=>?_,fun h=>?_⟩
 ·exfalso
  simp only [Bool.or_eq_true,Bool.and_eq_true,Bool.not_eq_true',beq_iff_eq] at h
  rcases h with (⟨h1,h2⟩ | h) | ⟨⟨h1,h2⟩,h3⟩
  ·exact ltN_asymm (lessE_iff.1 h1) (lessE_iff.1 h2)
  ·by_cases hn:a.val.kind=b.val.kind∧a.key=b.key
   ·have e1:lessE a b=false:=lessE_no.2 fun e=>ltN_irr b ((ltN_name hn).1.1 e)
    have e2:lessE b a=false:=lessE_no.2 fun e=>ltN_irr b ((ltN_name hn).2.1 e)
    rw [e1,e2] at h; simp [hn.1,hn.2] at h
   ·have e:lessE a b=true∨lessE b a=true:=by
     by_cases h1:ltN a b
     ·exact .inl (lessE_iff.2 h1)
     ·by_cases h2:ltN b a
      ·exact .inr (lessE_iff.2 h2)
      ·exact absurd (ltN_tri h1 h2) hn
    have e':(lessE a b||lessE b a)=true:=by simpa using e
    rw [e'] at h
    exact hn (by simpa using h)
  ·exact absurd (ltN_trans (lessE_iff.1 h1) (lessE_iff.1 h2)) (lessE_no.1 h3)
 ·show true=(((joinE a b).2 != 0||nameE a b)&&(!nameE a b||(joinE a b).2 != 3))
  unfold joinE
  cases okE a <;> cases okE b <;> cases nameE a b <;> rfl
end Go.Proofs.Ytbijobepjjokmaa
