/- Entries and arenas, opened. -/
import Derived.Test.YthifkdgljapmeaaSf
import Derived.Test.YthifkdgljapmeaaEs
namespace Go.Proofs.Ythifkdgljapmeaa
open Go Go.ChangeShapes Go.WideShapes Go.ChangeAt Go.RowKit Go.Deep
set_option linter.unusedVariables false
set_option linter.unusedSimpArgs false

def GEnt (e:Ent):Prop:=shortL e.key∧GVal e.val
theorem opens_Ent:Opens Try.prog 42 kEnt GEnt:=fun H enc w base spare held fuel cs x h=>by
 have hu:=Try.underlying42
 have hl:cs.length=9:=(trod_len hu h).trans (by kernel_rfl)
 obtain ⟨d0,_,g0,h0⟩:=trod_field hu h (k:=kS) 0 rfl (opens_str un_string) (o:=0) rfl (by kernel_rfl)
 obtain ⟨d1,_,g1,h1⟩:=trod_field hu h (k:=kVal) 1 rfl opens_Val (o:=1) rfl (by kernel_rfl)
 obtain ⟨c0,cr,rfl⟩:∃ c0 cr,cs=c0::cr:=by
  cases cs with
  | nil=>simp at hl
  | cons a l=>exact ⟨a,l,rfl⟩
 obtain rfl:c0=str d0:=by have:=h0.now; simpa [kS] using this
 have e:(((str d0::cr).drop 1).take kVal.n)=cr:=by
  show cr.take 8=cr
  exact List.take_of_length_le (by simp at hl; omega)
 rw [e] at h1
 obtain ⟨A1,q1,A2,q2,rfl,s1,s2⟩:=kVal_open h1
 exact ⟨⟨d0,d1⟩,rfl,⟨g0,g1⟩,kEnt_mk (d:=⟨d0,d1⟩) s1 s2⟩
abbrev Gs_api_Entry (l:List Ent):Prop:=shortL l∧∀ e∈l,GEnt e
theorem opens_s_api_Entry:Opens Try.prog 22 (kSl kEnt) Gs_api_Entry:=opens_slice un_s_api_Entry opens_Ent (by kernel_rfl) (by decide)
def GArena (a:Arena):Prop:=inI a.cap∧Gs_api_Entry a.slots∧GInts a.idx
theorem opens_Arena:Opens Try.prog 25 kArena GArena:=fun H enc w base spare held fuel cs x h=>by
 have hu:=Try.underlying25
 have hl:cs.length=3:=(trod_len hu h).trans (by kernel_rfl)
 obtain ⟨c0,c1,c2,rfl⟩:∃ c0 c1 c2,cs=[c0,c1,c2]:=by
  match cs,hl with
  | [c0,c1,c2],_=>exact ⟨_,_,_,rfl⟩
 obtain ⟨d0,_,g0,h0⟩:=trod_field hu h (k:=kI .i64) 0 rfl (opens_int un_int) (o:=0) rfl (by kernel_rfl)
 obtain ⟨d1,_,g1,h1⟩:=trod_field hu h (k:=kSl kEnt) 1 rfl opens_s_api_Entry (o:=1) rfl (by kernel_rfl)
 obtain ⟨d2,_,g2,h2⟩:=trod_field hu h (k:=kSl (kI .i64)) 2 rfl opens_ints (o:=2) rfl (by kernel_rfl)
 obtain rfl:c0=.int .i64 d0:=by have:=h0.now; simpa [kI] using this
 obtain ⟨A1,q1,rfl,s1⟩:=Stb.sl (v:=c1) (k:=kEnt) (d:=d1) (by simpa [kSl] using h1)
 obtain ⟨A2,q2,rfl,s2⟩:=Stb.sl (v:=c2) (k:=kI .i64) (d:=d2) (by simpa [kSl] using h2)
 exact ⟨⟨d0,d1,d2⟩,rfl,⟨inK_i64 g0,g1,g2⟩,kArena_mk (d:=⟨d0,d1,d2⟩) s1 s2⟩
end Go.Proofs.Ythifkdgljapmeaa
