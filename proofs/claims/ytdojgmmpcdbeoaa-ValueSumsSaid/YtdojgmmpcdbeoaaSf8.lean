/- Arrays as arguments. -/
import Derived.Test.YtdojgmmpcdbeoaaSf7
namespace Go.Proofs.Ytdojgmmpcdbeoaa
open Go Go.ChangeShapes Go.WideShapes Go.ChangeAt Go.RowKit Go.Deep
set_option linter.unusedVariables false
theorem okWide_array {P:Program} {w:World} {r:Reach} {base n:Nat} {t e:TypeId} {v:Value} (ht:P.underlying t=some (.array n e)) (h:Value.okWide P w r base t v):∃ cs:Array Value,v=.agg cs∧cs.size=P.cellsOf t:=by
 simp only [Value.okWide,ht] at h
 obtain ⟨cs,h1,h2,_⟩:=h
 exact ⟨cs,h1,h2⟩
end Go.Proofs.Ytdojgmmpcdbeoaa
