/- Data of delta, as plain structures. -/
import Derived.Test.YthhjcijhanacnaaGreatD2
namespace Go.Proofs.YthhjcijhanacnaaGreat
open Go Go.RowKit
set_option linter.unusedVariables false
set_option linter.unusedSimpArgs false
structure Upd where
 a:Arena
 node:Int
 kind:Int
 key:Str
instance:Inhabited Upd:=⟨⟨(⟨(0:Int),([]:List Ent),([]:List Int)⟩:Arena),(0:Int),(0:Int),([]:Str)⟩⟩
abbrev cUpd (d:Upd) (A1:Option Addr) (c1:Nat) (A2:Option Addr) (c2:Nat):List Value:=[.int .i64 d.a.cap,.slice A1 d.a.slots.length c1,.slice A2 d.a.idx.length c2,.int .i64 d.node,.int .i64 d.kind,str d.key]
def kUpd:Kd Upd:=⟨6,fun w cs d=>∃ A1 c1,∃ A2 c2,cs=[.int .i64 d.a.cap,.slice A1 d.a.slots.length c1,.slice A2 d.a.idx.length c2,.int .i64 d.node,.int .i64 d.kind,str d.key]∧SlC kEnt w A1 c1 d.a.slots∧SlC (kI .i64) w A2 c2 d.a.idx⟩
theorem kUpd_open {L:List Nat} {w:World} {cs:List Value} {d:Upd} (h:Stb L w (fun w=>kUpd.r w cs d)):∃ A1 c1,∃ A2 c2,cs=[.int .i64 d.a.cap,.slice A1 d.a.slots.length c1,.slice A2 d.a.idx.length c2,.int .i64 d.node,.int .i64 d.kind,str d.key]∧Stb L w (fun w=>SlC kEnt w A1 c1 d.a.slots)∧Stb L w (fun w=>SlC (kI .i64) w A2 c2 d.a.idx):=by
 obtain ⟨A1,c1,A2,c2,e,h1,h2⟩:=h.now
 subst e
 exact ⟨A1,c1,A2,c2,rfl,fun w' ha=>by obtain ⟨_,_,_,_,e',h1',h2'⟩:=h w' ha; cases e'; exact h1',fun w' ha=>by obtain ⟨_,_,_,_,e',h1',h2'⟩:=h w' ha; cases e'; exact h2'⟩
theorem kUpd_mk {L:List Nat} {w:World} {A1:Option Addr} {c1:Nat} {A2:Option Addr} {c2:Nat} {d:Upd} (h1:Stb L w (fun w=>SlC kEnt w A1 c1 d.a.slots)) (h2:Stb L w (fun w=>SlC (kI .i64) w A2 c2 d.a.idx)):Stb L w (fun w=>kUpd.r w [.int .i64 d.a.cap,.slice A1 d.a.slots.length c1,.slice A2 d.a.idx.length c2,.int .i64 d.node,.int .i64 d.kind,str d.key] d) :=
 fun w' ha=>⟨A1,c1,A2,c2,rfl,h1 w' ha,h2 w' ha⟩
end Go.Proofs.YthhjcijhanacnaaGreat
