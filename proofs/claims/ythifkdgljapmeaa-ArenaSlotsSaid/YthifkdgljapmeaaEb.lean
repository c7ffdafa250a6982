/- The reference of arena: its index, its slots. -/
import Derived.Test.YthifkdgljapmeaaEs
namespace Go.Proofs.Ythifkdgljapmeaa
open Go Go.RowKit
set_option linter.unusedVariables false
set_option linter.unusedSimpArgs false
end Go.Proofs.Ythifkdgljapmeaa
