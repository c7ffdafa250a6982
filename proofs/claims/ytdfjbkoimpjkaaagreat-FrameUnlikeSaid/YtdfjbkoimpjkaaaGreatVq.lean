/- What is known of a frame that a law is given. -/
import Derived.Test.YtdfjbkoimpjkaaaGreatVn
import Derived.Test.YtdfjbkoimpjkaaaGreatVp
import Derived.Test.YtdfjbkoimpjkaaaGreatSf4
namespace Go.Proofs.YtdfjbkoimpjkaaaGreat
open Go Go.RowKit
set_option linter.unusedVariables false
set_option linter.unusedSimpArgs false

theorem gs_sml {l:List Ent} (h:Gs_api_Entry l):sml l:=⟨h.1,fun e he=>⟨(h.2 e he).2.2.2.1,(h.2 e he).2.2.2.2⟩⟩
theorem gs_inU {l:List Ent} (h:Gs_api_Entry l):∀ e∈l,inU e.val.flags:=fun e he=>(h.2 e he).2.1.flags
theorem same_self (f:Frm):sameF f f=true:=by unfold sameF; simp [allE_self]
theorem same_iff {a b:Frm} (ha:a.sums.length=4) (hb:b.sums.length=4):sameF a b=true↔a=b:=by
 constructor
 ·intro h
  unfold sameF at h
  simp only [Bool.and_eq_true,beq_iff_eq,and_true,allE_iff] at h
  obtain ⟨⟨⟨⟨h1,h2⟩,h3⟩,h4,h5,h6,h7⟩,h8⟩:=h
  obtain ⟨k,x,y,s,e⟩:=a
  obtain ⟨k',x',y',s',e'⟩:=b
  simp only at h1 h2 h3 h4 h5 h6 h7 h8 ha hb
  match s,ha,s',hb with
  | [_,_,_,_],_,[_,_,_,_],_ =>
   have e4:_=_:=h4
   have e5:_=_:=h5
   have e6:_=_:=h6
   have e7:_=_:=h7
   simp only [nth] at e4 e5 e6 e7
   simp_all
 ·rintro rfl; exact same_self a
end Go.Proofs.YtdfjbkoimpjkaaaGreat
