/- The data of the program, as plain structures. -/
import Derived.Test.YtdojgmmpcdbeoaaWe
namespace Go.Proofs.Ytdojgmmpcdbeoaa
open Go Go.RowKit
set_option linter.unusedVariables false
set_option linter.unusedSimpArgs false
structure Val where
 kind:Int
 time:Int
 node:Int
 dead:Bool
 text:Str
 plus:List Int
 minus:List Int
 flags:Int
instance:Inhabited Val:=⟨⟨(0:Int),(0:Int),(0:Int),false,([]:Str),([]:List Int),([]:List Int),(0:Int)⟩⟩
abbrev cVal (d:Val) (A1:Option Addr) (c1:Nat) (A2:Option Addr) (c2:Nat):List Value:=[.int .i64 d.kind,.int .i64 d.time,.int .i64 d.node,.bool d.dead,str d.text,.slice A1 d.plus.length c1,.slice A2 d.minus.length c2,.int .u64 d.flags]
def kVal:Kd Val:=⟨8,fun w cs d=>∃ A1 c1,∃ A2 c2,cs=[.int .i64 d.kind,.int .i64 d.time,.int .i64 d.node,.bool d.dead,str d.text,.slice A1 d.plus.length c1,.slice A2 d.minus.length c2,.int .u64 d.flags]∧SlC (kI .i64) w A1 c1 d.plus∧SlC (kI .i64) w A2 c2 d.minus⟩
theorem kVal_open {L:List Nat} {w:World} {cs:List Value} {d:Val} (h:Stb L w (fun w=>kVal.r w cs d)):∃ A1 c1,∃ A2 c2,cs=[.int .i64 d.kind,.int .i64 d.time,.int .i64 d.node,.bool d.dead,str d.text,.slice A1 d.plus.length c1,.slice A2 d.minus.length c2,.int .u64 d.flags]∧Stb L w (fun w=>SlC (kI .i64) w A1 c1 d.plus)∧Stb L w (fun w=>SlC (kI .i64) w A2 c2 d.minus):=by
 obtain ⟨A1,c1,A2,c2,e,h1,h2⟩:=h.now
 subst e
 exact ⟨A1,c1,A2,c2,rfl,fun w' ha=>by obtain ⟨_,_,_,_,e',h1',h2'⟩:=h w' ha; cases e'; exact h1',fun w' ha=>by obtain ⟨_,_,_,_,e',h1',h2'⟩:=h w' ha; cases e'; exact h2'⟩
theorem kVal_mk {L:List Nat} {w:World} {A1:Option Addr} {c1:Nat} {A2:Option Addr} {c2:Nat} {d:Val} (h1:Stb L w (fun w=>SlC (kI .i64) w A1 c1 d.plus)) (h2:Stb L w (fun w=>SlC (kI .i64) w A2 c2 d.minus)):Stb L w (fun w=>kVal.r w [.int .i64 d.kind,.int .i64 d.time,.int .i64 d.node,.bool d.dead,str d.text,.slice A1 d.plus.length c1,.slice A2 d.minus.length c2,.int .u64 d.flags] d) :=
 fun w' ha=>⟨A1,c1,A2,c2,rfl,h1 w' ha,h2 w' ha⟩
end Go.Proofs.Ytdojgmmpcdbeoaa
