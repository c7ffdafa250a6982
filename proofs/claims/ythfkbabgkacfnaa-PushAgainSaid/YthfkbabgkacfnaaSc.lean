/- value: Join, Below, Least, Sum, of the program and of its reference, in plain Lean. -/
import Derived.Test.YthfkbabgkacfnaaSb
namespace Go.Proofs.Ythfkbabgkacfnaa
open Go Go.RowKit
set_option linter.unusedVariables false
set_option linter.unusedSimpArgs false

/-! ### Join and what is made of it -/
theorem few_ev (v:Val):law06_Few_raw v (fewV v):=by
 have e1:decide ((v.text.length:Int)≤(100:Int))=decide (v.text.length≤100):=dec_cast (m:=100)
 have e2:decide ((v.plus.length:Int)≤(40:Int))=decide (v.plus.length≤40):=dec_cast (m:=40)
 have e3:decide ((v.minus.length:Int)≤(40:Int))=decide (v.minus.length≤40):=dec_cast (m:=40)
 unfold law06_Few_raw fewV
 rw [e1,e2,e3,Bool.and_assoc]
theorem few_sm {v:Val} (h:fewV v=true):sm v:=by
 simp only [fewV,Bool.and_eq_true,decide_eq_true_eq] at h
 exact ⟨by omega,by omega⟩
def worksV:Bool:=true
end Go.Proofs.Ythfkbabgkacfnaa
