/- Data of frames, as plain structures. -/
import Derived.Test.YthfkbabgkacfnaaD3
import Derived.Test.YthfkbabgkacfnaaWm
namespace Go.Proofs.Ythfkbabgkacfnaa
open Go Go.RowKit
set_option linter.unusedVariables false
set_option linter.unusedSimpArgs false
structure Frm where
 kind:Int
 a:Int
 b:Int
 sums:List Int
 entries:List Ent
instance:Inhabited Frm:=⟨⟨(0:Int),(0:Int),(0:Int),[(0:Int),(0:Int),(0:Int),(0:Int)],([]:List Ent)⟩⟩
structure Ltr where
 frame:Frm
instance:Inhabited Ltr:=⟨⟨(⟨(0:Int),(0:Int),(0:Int),[(0:Int),(0:Int),(0:Int),(0:Int)],([]:List Ent)⟩:Frm)⟩⟩
structure Fm where
 la:Int
 ma:Int
 mb:Int
 sums:Bool
 ents:Bool
instance:Inhabited Fm:=⟨⟨(0:Int),(0:Int),(0:Int),false,false⟩⟩
abbrev cFrm (d:Frm) (A1:Option Addr) (c1:Nat):List Value:=[.int .i64 d.kind,.int .i64 d.a,.int .i64 d.b,.int .i64 (nth d.sums 0),.int .i64 (nth d.sums 1),.int .i64 (nth d.sums 2),.int .i64 (nth d.sums 3),.slice A1 d.entries.length c1]
abbrev cLtr (d:Ltr) (A1:Option Addr) (c1:Nat):List Value:=[.int .i64 d.frame.kind,.int .i64 d.frame.a,.int .i64 d.frame.b,.int .i64 (nth d.frame.sums 0),.int .i64 (nth d.frame.sums 1),.int .i64 (nth d.frame.sums 2),.int .i64 (nth d.frame.sums 3),.slice A1 d.frame.entries.length c1]
abbrev cFm (d:Fm):List Value:=[.int .i64 d.la,.int .i64 d.ma,.int .i64 d.mb,.bool d.sums,.bool d.ents]
def kFrm:Kd Frm:=⟨8,fun w cs d=>∃ A1 c1,cs=[.int .i64 d.kind,.int .i64 d.a,.int .i64 d.b,.int .i64 (nth d.sums 0),.int .i64 (nth d.sums 1),.int .i64 (nth d.sums 2),.int .i64 (nth d.sums 3),.slice A1 d.entries.length c1]∧SlC kEnt w A1 c1 d.entries∧d.sums.length=4⟩
theorem kFrm_open {L:List Nat} {w:World} {cs:List Value} {d:Frm} (h:Stb L w (fun w=>kFrm.r w cs d)):∃ A1 c1,cs=[.int .i64 d.kind,.int .i64 d.a,.int .i64 d.b,.int .i64 (nth d.sums 0),.int .i64 (nth d.sums 1),.int .i64 (nth d.sums 2),.int .i64 (nth d.sums 3),.slice A1 d.entries.length c1]∧Stb L w (fun w=>SlC kEnt w A1 c1 d.entries)∧d.sums.length=4:=by
 obtain ⟨A1,c1,e,h1,h2⟩:=h.now
 subst e
 exact ⟨A1,c1,rfl,fun w' ha=>by obtain ⟨_,_,e',h1',h2'⟩:=h w' ha; cases e'; exact h1',h2⟩
theorem kFrm_mk {L:List Nat} {w:World} {A1:Option Addr} {c1:Nat} {d:Frm} (h1:Stb L w (fun w=>SlC kEnt w A1 c1 d.entries)) (h2:d.sums.length=4):Stb L w (fun w=>kFrm.r w [.int .i64 d.kind,.int .i64 d.a,.int .i64 d.b,.int .i64 (nth d.sums 0),.int .i64 (nth d.sums 1),.int .i64 (nth d.sums 2),.int .i64 (nth d.sums 3),.slice A1 d.entries.length c1] d) :=
 fun w' ha=>⟨A1,c1,rfl,h1 w' ha,h2⟩
def kLtr:Kd Ltr:=⟨8,fun w cs d=>∃ A1 c1,cs=[.int .i64 d.frame.kind,.int .i64 d.frame.a,.int .i64 d.frame.b,.int .i64 (nth d.frame.sums 0),.int .i64 (nth d.frame.sums 1),.int .i64 (nth d.frame.sums 2),.int .i64 (nth d.frame.sums 3),.slice A1 d.frame.entries.length c1]∧SlC kEnt w A1 c1 d.frame.entries∧d.frame.sums.length=4⟩
theorem kLtr_open {L:List Nat} {w:World} {cs:List Value} {d:Ltr} (h:Stb L w (fun w=>kLtr.r w cs d)):∃ A1 c1,cs=[.int .i64 d.frame.kind,.int .i64 d.frame.a,.int .i64 d.frame.b,.int .i64 (nth d.frame.sums 0),.int .i64 (nth d.frame.sums 1),.int .i64 (nth d.frame.sums 2),.int .i64 (nth d.frame.sums 3),.slice A1 d.frame.entries.length c1]∧Stb L w (fun w=>SlC kEnt w A1 c1 d.frame.entries)∧d.frame.sums.length=4:=by
 obtain ⟨A1,c1,e,h1,h2⟩:=h.now
 subst e
 exact ⟨A1,c1,rfl,fun w' ha=>by obtain ⟨_,_,e',h1',h2'⟩:=h w' ha; cases e'; exact h1',h2⟩
theorem kLtr_mk {L:List Nat} {w:World} {A1:Option Addr} {c1:Nat} {d:Ltr} (h1:Stb L w (fun w=>SlC kEnt w A1 c1 d.frame.entries)) (h2:d.frame.sums.length=4):Stb L w (fun w=>kLtr.r w [.int .i64 d.frame.kind,.int .i64 d.frame.a,.int .i64 d.frame.b,.int .i64 (nth d.frame.sums 0),.int .i64 (nth d.frame.sums 1),.int .i64 (nth d.frame.sums 2),.int .i64 (nth d.frame.sums 3),.slice A1 d.frame.entries.length c1] d) :=
 fun w' ha=>⟨A1,c1,rfl,h1 w' ha,h2⟩
end Go.Proofs.Ythfkbabgkacfnaa
