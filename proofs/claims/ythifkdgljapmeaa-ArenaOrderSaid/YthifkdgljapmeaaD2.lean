/- More data of the program, as plain structures. -/
import Derived.Test.YthifkdgljapmeaaD
namespace Go.Proofs.Ythifkdgljapmeaa
open Go Go.RowKit
set_option linter.unusedVariables false
set_option linter.unusedSimpArgs false
structure Ent where
 key:Str
 val:Val
instance:Inhabited Ent:=⟨⟨([]:Str),(⟨(0:Int),(0:Int),(0:Int),false,([]:Str),([]:List Int),([]:List Int),(0:Int)⟩:Val)⟩⟩
structure Arena where
 cap:Int
 slots:List Ent
 idx:List Int
instance:Inhabited Arena:=⟨⟨(0:Int),([]:List Ent),([]:List Int)⟩⟩
structure Joined where
 a:Arena
 is:Bool
 e:Int
instance:Inhabited Joined:=⟨⟨(⟨(0:Int),([]:List Ent),([]:List Int)⟩:Arena),false,(0:Int)⟩⟩
abbrev cEnt (d:Ent) (A1:Option Addr) (c1:Nat) (A2:Option Addr) (c2:Nat):List Value:=[str d.key,.int .i64 d.val.kind,.int .i64 d.val.time,.int .i64 d.val.node,.bool d.val.dead,str d.val.text,.slice A1 d.val.plus.length c1,.slice A2 d.val.minus.length c2,.int .u64 d.val.flags]
abbrev cArena (d:Arena) (A1:Option Addr) (c1:Nat) (A2:Option Addr) (c2:Nat):List Value:=[.int .i64 d.cap,.slice A1 d.slots.length c1,.slice A2 d.idx.length c2]
def kEnt:Kd Ent:=⟨9,fun w cs d=>∃ A1 c1,∃ A2 c2,cs=[str d.key,.int .i64 d.val.kind,.int .i64 d.val.time,.int .i64 d.val.node,.bool d.val.dead,str d.val.text,.slice A1 d.val.plus.length c1,.slice A2 d.val.minus.length c2,.int .u64 d.val.flags]∧SlC (kI .i64) w A1 c1 d.val.plus∧SlC (kI .i64) w A2 c2 d.val.minus⟩
theorem kEnt_open {L:List Nat} {w:World} {cs:List Value} {d:Ent} (h:Stb L w (fun w=>kEnt.r w cs d)):∃ A1 c1,∃ A2 c2,cs=[str d.key,.int .i64 d.val.kind,.int .i64 d.val.time,.int .i64 d.val.node,.bool d.val.dead,str d.val.text,.slice A1 d.val.plus.length c1,.slice A2 d.val.minus.length c2,.int .u64 d.val.flags]∧Stb L w (fun w=>SlC (kI .i64) w A1 c1 d.val.plus)∧Stb L w (fun w=>SlC (kI .i64) w A2 c2 d.val.minus):=by
 obtain ⟨A1,c1,A2,c2,e,h1,h2⟩:=h.now
 subst e
 exact ⟨A1,c1,A2,c2,rfl,fun w' ha=>by obtain ⟨_,_,_,_,e',h1',h2'⟩:=h w' ha; cases e'; exact h1',fun w' ha=>by obtain ⟨_,_,_,_,e',h1',h2'⟩:=h w' ha; cases e'; exact h2'⟩
theorem kEnt_open2 {L:List Nat} {w:World} {a:Addr} {cs:List Value} {d:Ent} (h:Stb L w (fun w=>CellsAt w a cs∧kEnt.r w cs d)):∃ A1 c1,∃ A2 c2,cs=[str d.key,.int .i64 d.val.kind,.int .i64 d.val.time,.int .i64 d.val.node,.bool d.val.dead,str d.val.text,.slice A1 d.val.plus.length c1,.slice A2 d.val.minus.length c2,.int .u64 d.val.flags]∧Stb L w (fun w=>CellsAt w a [str d.key,.int .i64 d.val.kind,.int .i64 d.val.time,.int .i64 d.val.node,.bool d.val.dead,str d.val.text,.slice A1 d.val.plus.length c1,.slice A2 d.val.minus.length c2,.int .u64 d.val.flags]∧True)∧Stb L w (fun w=>SlC (kI .i64) w A1 c1 d.val.plus)∧Stb L w (fun w=>SlC (kI .i64) w A2 c2 d.val.minus):=by
 obtain ⟨A1,c1,A2,c2,e,h1,h2⟩:=kEnt_open (h.mono fun _ h=>h.2)
 subst e
 exact ⟨A1,c1,A2,c2,rfl,h.mono fun _ h=>⟨h.1,trivial⟩,h1,h2⟩
theorem kEnt_one (w:World) (cs:List Value) (d:Ent) (h:kEnt.r w cs d):cs.all oneC=true:=by
 obtain ⟨A1,c1,A2,c2,e,h1,h2⟩:=h
 subst e
 rfl
theorem kEnt_mk {L:List Nat} {w:World} {A1:Option Addr} {c1:Nat} {A2:Option Addr} {c2:Nat} {d:Ent} (h1:Stb L w (fun w=>SlC (kI .i64) w A1 c1 d.val.plus)) (h2:Stb L w (fun w=>SlC (kI .i64) w A2 c2 d.val.minus)):Stb L w (fun w=>kEnt.r w [str d.key,.int .i64 d.val.kind,.int .i64 d.val.time,.int .i64 d.val.node,.bool d.val.dead,str d.val.text,.slice A1 d.val.plus.length c1,.slice A2 d.val.minus.length c2,.int .u64 d.val.flags] d) :=
 fun w' ha=>⟨A1,c1,A2,c2,rfl,h1 w' ha,h2 w' ha⟩
def kArena:Kd Arena:=⟨3,fun w cs d=>∃ A1 c1,∃ A2 c2,cs=[.int .i64 d.cap,.slice A1 d.slots.length c1,.slice A2 d.idx.length c2]∧SlC kEnt w A1 c1 d.slots∧SlC (kI .i64) w A2 c2 d.idx⟩
theorem kArena_open {L:List Nat} {w:World} {cs:List Value} {d:Arena} (h:Stb L w (fun w=>kArena.r w cs d)):∃ A1 c1,∃ A2 c2,cs=[.int .i64 d.cap,.slice A1 d.slots.length c1,.slice A2 d.idx.length c2]∧Stb L w (fun w=>SlC kEnt w A1 c1 d.slots)∧Stb L w (fun w=>SlC (kI .i64) w A2 c2 d.idx):=by
 obtain ⟨A1,c1,A2,c2,e,h1,h2⟩:=h.now
 subst e
 exact ⟨A1,c1,A2,c2,rfl,fun w' ha=>by obtain ⟨_,_,_,_,e',h1',h2'⟩:=h w' ha; cases e'; exact h1',fun w' ha=>by obtain ⟨_,_,_,_,e',h1',h2'⟩:=h w' ha; cases e'; exact h2'⟩
theorem kArena_mk {L:List Nat} {w:World} {A1:Option Addr} {c1:Nat} {A2:Option Addr} {c2:Nat} {d:Arena} (h1:Stb L w (fun w=>SlC kEnt w A1 c1 d.slots)) (h2:Stb L w (fun w=>SlC (kI .i64) w A2 c2 d.idx)):Stb L w (fun w=>kArena.r w [.int .i64 d.cap,.slice A1 d.slots.length c1,.slice A2 d.idx.length c2] d) :=
 fun w' ha=>⟨A1,c1,A2,c2,rfl,h1 w' ha,h2 w' ha⟩
end Go.Proofs.Ythifkdgljapmeaa
