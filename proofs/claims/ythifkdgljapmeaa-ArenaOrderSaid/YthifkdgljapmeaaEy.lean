/- The example that the laws of arena ask first. -/
import Derived.Test.YthifkdgljapmeaaEh
namespace Go.Proofs.Ythifkdgljapmeaa
open Go Go.RowKit
set_option linter.unusedVariables false

instance (v:Val):Decidable (sm v):=by unfold sm; infer_instance
instance (l:List Ent):Decidable (sml l):=by unfold sml; infer_instance
instance (a:Arena):Decidable (sma a):=by unfold sma; infer_instance
instance (n:Int):Decidable (inI n):=by unfold inI; infer_instance
instance (n:Int):Decidable (inU n):=by unfold inU; infer_instance
theorem wfV_iff (v:Val):WfV v↔inI v.kind∧inI v.time∧inI v.node∧(∀ x∈v.plus,inI x)∧(∀ x∈v.minus,inI x)∧inU v.flags :=
 ⟨fun ⟨a,b,c,d,e,f⟩=>⟨a,b,c,d,e,f⟩,fun ⟨a,b,c,d,e,f⟩=>⟨a,b,c,d,e,f⟩⟩
instance (v:Val):Decidable (WfV v):=decidable_of_iff _ (wfV_iff v).symm
instance (l:List Ent):Decidable (wfl l):=by unfold wfl; infer_instance
set_option maxRecDepth 100000 in
theorem works8_ev:law08_works_raw worksV:=by
 unfold law08_works_raw
 repeat' first
  | (refine ⟨_,rfl,?_⟩)
  | (refine ⟨fun _=>?_,fun h=>absurd h (by decide +kernel)⟩)
  | (refine ⟨fun h=>absurd h (by decide +kernel),fun _=>?_⟩)
  | (refine ⟨by decide +kernel,?_⟩)
  | (refine ⟨fun _=>by decide +kernel,?_⟩)
  | rfl
  | (decide +kernel)
end Go.Proofs.Ythifkdgljapmeaa
