/- The example that the laws of push ask first. -/
import Derived.Test.YthfkbabgkacfnaaPh
import Derived.Test.YthfkbabgkacfnaaFx
namespace Go.Proofs.Ythfkbabgkacfnaa
open Go Go.RowKit
set_option linter.unusedVariables false

set_option maxRecDepth 100000 in
theorem works17_ev:law17_works_raw worksV:=by
 unfold law17_works_raw
 repeat' first
  | (refine ⟨_,rfl,?_⟩)
  | (refine ⟨fun _=>?_,fun h=>absurd h (by decide +kernel)⟩)
  | (refine ⟨fun h=>absurd h (by decide +kernel),fun _=>?_⟩)
  | (refine ⟨by decide +kernel,?_⟩)
  | (refine ⟨fun _=>by decide +kernel,?_⟩)
  | rfl
  | (decide +kernel)
end Go.Proofs.Ythfkbabgkacfnaa
