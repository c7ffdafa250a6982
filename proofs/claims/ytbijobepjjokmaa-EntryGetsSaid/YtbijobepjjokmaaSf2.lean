/- Entries and arenas, opened. -/
import Derived.Test.YtbijobepjjokmaaSf
import Derived.Test.YtbijobepjjokmaaEs
namespace Go.Proofs.Ytbijobepjjokmaa
open Go Go.ChangeShapes Go.WideShapes Go.ChangeAt Go.RowKit Go.Deep
set_option linter.unusedVariables false
set_option linter.unusedSimpArgs false

def GEnt (e:Ent):Prop:=shortL e.key∧GVal e.val
theorem opens_Ent:Opens Try.prog 27 kEnt GEnt:=fun H enc w base spare held fuel cs x h=>by
 have hu:=Try.underlying27
 have hl:cs.length=9:=(trod_len hu h).trans (by kernel_rfl)
 obtain ⟨d0,_,g0,h0⟩:=trod_field hu h (k:=kS) 0 rfl (opens_str un_string) (o:=0) rfl (by kernel_rfl)
 obtain ⟨d1,_,g1,h1⟩:=trod_field hu h (k:=kVal) 1 rfl opens_Val (o:=1) rfl (by kernel_rfl)
 obtain ⟨c0,cr,rfl⟩:∃ c0 cr,cs=c0::cr:=by
  cases cs with
  | nil=>simp at hl
  | cons a l=>exact ⟨a,l,rfl⟩
 obtain rfl:c0=str d0:=by have:=h0.now; simpa [kS] using this
 have e:(((str d0::cr).drop 1).take kVal.n)=cr:=by
  show cr.take 8=cr
  exact List.take_of_length_le (by simp at hl; omega)
 rw [e] at h1
 obtain ⟨A1,q1,A2,q2,rfl,s1,s2⟩:=kVal_open h1
 exact ⟨⟨d0,d1⟩,rfl,⟨g0,g1⟩,kEnt_mk (d:=⟨d0,d1⟩) s1 s2⟩
end Go.Proofs.Ytbijobepjjokmaa
