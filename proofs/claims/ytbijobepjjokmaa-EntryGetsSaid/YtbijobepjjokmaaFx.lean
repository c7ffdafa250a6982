/- The example that the laws of buffer ask first. -/
import Derived.Test.YtbijobepjjokmaaCt4
import Derived.Test.YtbijobepjjokmaaFs
namespace Go.Proofs.Ytbijobepjjokmaa
open Go Go.RowKit
set_option linter.unusedVariables false

instance (v:Val):Decidable (sm v):=by unfold sm; infer_instance
instance (l:List Ent):Decidable (sml l):=by unfold sml; infer_instance
instance (a:Arena):Decidable (sma a):=by unfold sma; infer_instance
instance (b:Buf):Decidable (smB b):=by unfold smB; infer_instance
instance (b:Buf):Decidable (smN b):=by unfold smN; infer_instance
end Go.Proofs.Ytbijobepjjokmaa
