/- The example that the laws of entry ask first. -/
import Derived.Test.YtbijobepjjokmaaHi
import Derived.Test.YtbijobepjjokmaaHb
namespace Go.Proofs.Ytbijobepjjokmaa
open Go Go.RowKit
set_option linter.unusedVariables false

instance (s:Str):Decidable (okG s):=by unfold okG; infer_instance
instance (v:Val):Decidable (sm v):=by unfold sm; infer_instance
set_option maxRecDepth 100000 in
theorem works7_ev:law07_works_raw worksV:=by
 unfold law07_works_raw
 repeat' first
  | (refine ⟨_,rfl,?_⟩)
  | (refine ⟨fun _=>?_,fun h=>absurd h (by decide +kernel)⟩)
  | (refine ⟨fun h=>absurd h (by decide +kernel),fun _=>?_⟩)
  | (refine ⟨by decide +kernel,?_⟩)
  | (refine ⟨fun _=>by decide +kernel,?_⟩)
  | rfl
  | (decide +kernel)
end Go.Proofs.Ytbijobepjjokmaa
