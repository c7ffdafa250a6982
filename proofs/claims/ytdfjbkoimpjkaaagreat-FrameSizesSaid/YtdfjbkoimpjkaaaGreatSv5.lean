/- FrameSizes: a frame has 30 bytes, and 42 for each entry. -/
import Derived.Test.YtdfjbkoimpjkaaaGreatGkSizes
import Derived.Test.YtdfjbkoimpjkaaaGreatVq
namespace Go.Proofs.YtdfjbkoimpjkaaaGreat
open Go Go.RowKit
set_option linter.unusedVariables false
set_option linter.unusedSimpArgs false

theorem frameSizes_row (f:Frm) (gf:GFrm f):law14_FrameSizes_raw f true:=by
 refine ⟨fun h=>(by cases h),fun _=>⟨by decide,fun _=>rfl,fun f1=>?_⟩⟩
 have s0:=gs_sml gf.2.2.2.2
 refine ⟨s0,_,rfl,s0,?_⟩
 cases ho:okFr f with
 | true =>
  have h1:=body_len ho
  have h2:=(okF_parts ho).2.2.2.2.1
  have hc:checkF f=0:=by unfold okFr at ho; simpa using ho
  have e1:IntKind.i64.wrap ((42:Int) * (f.entries.length:Int))=((42 * f.entries.length:Nat):Int):=by rw [IntKind.wrap_i64]; omega
  have e2:IntKind.i64.wrap ((30:Int) + ((42 * f.entries.length:Nat):Int))=((30 + 42 * f.entries.length:Nat):Int):=by rw [IntKind.wrap_i64]; omega
  have e3:(((putFr f).1.length:Nat):Int)=((30 + 42 * f.entries.length:Nat):Int):=by
   rw [putFr_ok ho]
   show ((sealC (bodyF f)).length:Int)=_
   rw [seal_len]; omega
  rw [e1,e2,e3,putFr_ok ho,hc,show decide ((f.entries.length:Int)≤8)=true by simp; omega]
  simp
 | false =>
  have hc:(checkF f==0)=false:=ho
  rw [putFr_no ho,hc]; rfl
end Go.Proofs.YtdfjbkoimpjkaaaGreat
