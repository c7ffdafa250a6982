/- What is put of a frame is got again, and nothing else is: in plain Lean. -/
import Derived.Test.YtdfjbkoimpjkaaaGreatVh
import Derived.Test.YtdfjbkoimpjkaaaGreatVa
import Derived.Test.YtdfjbkoimpjkaaaGreatHj
namespace Go.Proofs.YtdfjbkoimpjkaaaGreat
open Go Go.RowKit
set_option linter.unusedVariables false
set_option linter.unusedSimpArgs false

theorem seal4 (b:Str):(putO (sumC b) 4).1.length=4∧leN (putO (sumC b) 4).1=crcN b:=by
 have h:=crcN_lt b
 rw [sumC_N]
 obtain ⟨h1,h2⟩:=num_fit (n:=(crcN b:Int)) 4 (by decide) (by decide) (by omega) (by show (crcN b:Int)<4294967296; omega)
 have h2':(leN (numF (crcN b:Int) 4):Int)=(crcN b:Int):=h2
 exact ⟨h1,by have:(leN (putO (crcN b:Int) 4).1:Int)=(crcN b:Int):=h2'; omega⟩
theorem seal_len (b:Str):(sealC b).length=b.length + 4:=by rw [sealC,List.length_append,(seal4 b).1]
theorem putFr_ok {f:Frm} (ho:okFr f=true):putFr f=(sealC (bodyF f),0):=by
 have hc:(checkF f != 0)=false:=by unfold okFr at ho; simpa using ho
 unfold putFr; rw [hc]; rfl
theorem putFr_no {f:Frm} (ho:okFr f=false):putFr f=([],2):=by
 have hc:(checkF f != 0)=true:=by unfold okFr at ho; simpa using ho
 unfold putFr; rw [hc]; rfl
end Go.Proofs.YtdfjbkoimpjkaaaGreat
