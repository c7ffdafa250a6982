/- ArenaBelow: below is an order; the merge of both is the least above both. -/
import Derived.Test.YthifkdgljapmeaaGd5
import Derived.Test.YthifkdgljapmeaaSe10
import Derived.Test.YthifkdgljapmeaaAm
namespace Go.Proofs.Ythifkdgljapmeaa
open Go Go.RowKit
set_option linter.unusedVariables false
set_option linter.unusedSimpArgs false

theorem arenaBelow_ev (a b c:Arena) (ga:GArena a) (gb:GArena b) (gc:GArena c):law08_ArenaBelow_raw a b c true:=by
 refine ⟨fun h=>(by cases h),fun _=>⟨fun f1=>rfl,fun f1=>?_⟩⟩
 have f2:fewA a=true∧fewA b=true∧fewA c=true:=by revert f1; cases fewA a <;> cases fewA b <;> cases fewA c <;> simp
 have sa:=fewA_sma f2.1
 have sb:=fewA_sma f2.2.1
 have sc:=fewA_sma f2.2.2
 have wa:wfa a:=wfl_of ga.2.1
 have wb:wfa b:=wfl_of gb.2.1
 have wc:wfa c:=wfl_of gc.2.1
 have sl:=sb.1
 have wl:wfl b.slots:=wb
 have sj:=sma_merge sa sl
 refine ⟨sa,sb,fun _=>sb,fun _=>sc,fun _=>sa,fun _=>sc,fun h=>?_,fun _=>⟨sa,fun _=>sb,fun h=>⟨sa,sb,?_⟩,fun h=>⟨sa,sl,wl,_,rfl,fun ho=>⟨sa,sj,?_⟩,fun ho=>?_⟩⟩⟩
 ·exfalso
  simp only [Bool.and_eq_true,Bool.not_eq_true'] at h
  rw [belowA_trans wa wb wc h.1.1 h.1.2] at h; cases h.2
 ·rw [checkA_ne,checkA_ne] at h
  cases hb:belowA a b with
  | false=>rfl
  | true=>obtain ⟨h1,h2,_⟩:=belowA_iff.1 hb; rw [h1,h2] at h; cases h
 ·rw [checkA_ne,checkA_ne] at h
  have hok:arOk a=true:=by revert h; cases arOk a <;> simp
  rw [merge_1]; exact (run_above _ hok wa wl).symm
 ·rw [checkA_ne,checkA_ne] at h
  have hok:arOk a=true∧arOk b=true:=by revert h; cases arOk a <;> cases arOk b <;> simp
  have hne:=merge_odd.1 ho
  have h1:=run_above _ hok.1 wa wl
  have hth:=run_there _ wa wl hne
  have wj:=run_wfa _ wa wl
  have h2:belowA b (runA a b.slots)=true:=belowA_iff.2 ⟨hok.2,run_arOk _ hok.1,fun x hx=>(hth x hx).2⟩
  refine ⟨sa,sc,fun _=>sb,fun _=>sc,sa,sj,fun _=>sb,fun _=>sj,fun _=>sj,fun _=>sc,fun _=>sa,fun _=>sa,?_⟩
  rw [merge_1,h1,h2,belowA_self hok.1 wa]
  cases hbc:(belowA a c&&belowA b c) with
  | false=>rfl
  | true =>
   rw [run_least _ wa wl wc (andL hbc) (fun x hx=>(belowA_iff.1 (andR hbc)).2.2 x hx)]; rfl
end Go.Proofs.Ythifkdgljapmeaa
