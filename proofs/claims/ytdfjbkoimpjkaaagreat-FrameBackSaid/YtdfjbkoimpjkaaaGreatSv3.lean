/- FrameBack: what is put is got again, and nothing else is. -/
import Derived.Test.YtdfjbkoimpjkaaaGreatGkBack
import Derived.Test.YtdfjbkoimpjkaaaGreatVq
namespace Go.Proofs.YtdfjbkoimpjkaaaGreat
open Go Go.RowKit
set_option linter.unusedVariables false
set_option linter.unusedSimpArgs false

theorem put_short (f:Frm):(putFr f).1.length≤1000000000:=by
 cases ho:okFr f with
 | true =>
  have h1:=body_len ho
  have h2:=(okF_parts ho).2.2.2.2.1
  rw [putFr_ok ho]
  show (sealC (bodyF f)).length≤_
  rw [seal_len]; omega
 | false=>rw [putFr_no ho]; exact Nat.zero_le _
theorem frameBack_row (f:Frm) (s:Str) (gf:GFrm f) (gs:shortL s):law14_FrameBack_raw f s true:=by
 refine ⟨fun h=>(by cases h),fun _=>⟨by decide,fun _=>rfl,fun f1=>?_⟩⟩
 have hl:¬ 450<(s.length:Int):=by
  intro c
  rw [show decide (450<(s.length:Int))=true by simpa using c] at f1; simp at f1
 have s0:=gs_sml gf.2.2.2.2
 have hput:((putFr f).2==(0:Int)&&((getFr (putFr f).1).2 != (0:Int)||!(sameF f (getFr (putFr f).1).1))||(putFr f).2 != (0:Int)&&!((putFr f).1==([]:Str)))=false:=by
  cases ho:okFr f with
  | true =>
   have hg:=get_putF ho gf.2.2.2.1.1 (gs_inU gf.2.2.2.2)
   rw [putFr_ok ho]
   simp [hg,same_self]
  | false=>rw [putFr_no ho]; rfl
 refine ⟨s0,_,rfl,put_short f,_,rfl,fun _=>s0,fun h=>(by rw [hput] at h; cases h),fun _=>⟨by omega,_,rfl,(sml_getFr s).1,_,rfl,fun _=>(sml_getFr s).1,fun _=>(sml_getFr s).1,?_⟩⟩
 rcases getFr_two s with ⟨e1,e2,e3,_⟩ | e1
 ·have hc:checkF (readF (openC s).1)=0:=by unfold okFr at e2; simpa using e2
  rw [e1]
  simp only [putFr_ok e2,e3,hc,beq_self_eq_true,Bool.and_self,Bool.true_or]
 ·rw [e1]
  have hz:sameF frm0 (⟨(0:Int),(0:Int),(0:Int),[(0:Int),(0:Int),(0:Int),(0:Int)],([]:List Ent)⟩:Frm)=true:=same_self frm0
  simp only [hz]
  simp
end Go.Proofs.YtdfjbkoimpjkaaaGreat
