/- The example that the laws of buffer ask first. -/
import Derived.Test.YtpopikeebobjnaaFh
namespace Go.Proofs.Ytpopikeebobjnaa
open Go Go.RowKit
set_option linter.unusedVariables false

instance (v:Val):Decidable (sm v):=by unfold sm; infer_instance
instance (l:List Ent):Decidable (sml l):=by unfold sml; infer_instance
instance (a:Arena):Decidable (sma a):=by unfold sma; infer_instance
instance (b:Buf):Decidable (smB b):=by unfold smB; infer_instance
instance (b:Buf):Decidable (smN b):=by unfold smN; infer_instance
set_option maxRecDepth 100000 in
theorem works16_ev:law16_works_raw worksV:=by
 unfold law16_works_raw
 repeat' first
  | (refine ⟨_,rfl,?_⟩)
  | (refine ⟨fun _=>?_,fun h=>absurd h (by decide +kernel)⟩)
  | (refine ⟨fun h=>absurd h (by decide +kernel),fun _=>?_⟩)
  | (refine ⟨by decide +kernel,?_⟩)
  | (refine ⟨fun _=>by decide +kernel,?_⟩)
  | rfl
  | (decide +kernel)
end Go.Proofs.Ytpopikeebobjnaa
