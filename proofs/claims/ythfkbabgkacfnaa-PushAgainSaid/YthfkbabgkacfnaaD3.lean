/- Data of buffers, as plain structures. -/
import Derived.Test.YthfkbabgkacfnaaD2
namespace Go.Proofs.Ythfkbabgkacfnaa
open Go Go.RowKit
set_option linter.unusedVariables false
set_option linter.unusedSimpArgs false
structure Nm where
 kind:Int
 key:Str
instance:Inhabited Nm:=⟨⟨(0:Int),([]:Str)⟩⟩
structure Buf where
 epoch:Int
 first:Int
 names:List Nm
instance:Inhabited Buf:=⟨⟨(0:Int),(0:Int),([]:List Nm)⟩⟩
abbrev cNm (d:Nm):List Value:=[.int .i64 d.kind,str d.key]
abbrev cBuf (d:Buf) (A1:Option Addr) (c1:Nat):List Value:=[.int .i64 d.epoch,.int .i64 d.first,.slice A1 d.names.length c1]
def kNm:Kd Nm:=⟨2,fun w cs d=>cs=[.int .i64 d.kind,str d.key]⟩
theorem kNm_open {L:List Nat} {w:World} {cs:List Value} {d:Nm} (h:Stb L w (fun w=>kNm.r w cs d)):cs=[.int .i64 d.kind,str d.key]:=by
 obtain e:=h.now
 subst e
 exact rfl
theorem kNm_open2 {L:List Nat} {w:World} {a:Addr} {cs:List Value} {d:Nm} (h:Stb L w (fun w=>CellsAt w a cs∧kNm.r w cs d)):cs=[.int .i64 d.kind,str d.key]∧Stb L w (fun w=>CellsAt w a [.int .i64 d.kind,str d.key]∧True):=by
 obtain e:=kNm_open (h.mono fun _ h=>h.2)
 subst e
 exact ⟨rfl,h.mono fun _ h=>⟨h.1,trivial⟩⟩
theorem kNm_one (w:World) (cs:List Value) (d:Nm) (h:kNm.r w cs d):cs.all oneC=true:=by
 have e:=h
 subst e
 rfl
theorem kNm_mk {L:List Nat} {w:World} {d:Nm}:Stb L w (fun w=>kNm.r w [.int .i64 d.kind,str d.key] d) :=
 fun w' ha=>rfl
def kBuf:Kd Buf:=⟨3,fun w cs d=>∃ A1 c1,cs=[.int .i64 d.epoch,.int .i64 d.first,.slice A1 d.names.length c1]∧SlC kNm w A1 c1 d.names⟩
theorem kBuf_open {L:List Nat} {w:World} {cs:List Value} {d:Buf} (h:Stb L w (fun w=>kBuf.r w cs d)):∃ A1 c1,cs=[.int .i64 d.epoch,.int .i64 d.first,.slice A1 d.names.length c1]∧Stb L w (fun w=>SlC kNm w A1 c1 d.names):=by
 obtain ⟨A1,c1,e,h1⟩:=h.now
 subst e
 exact ⟨A1,c1,rfl,fun w' ha=>by obtain ⟨_,_,e',h1'⟩:=h w' ha; cases e'; exact h1'⟩
theorem kBuf_mk {L:List Nat} {w:World} {A1:Option Addr} {c1:Nat} {d:Buf} (h1:Stb L w (fun w=>SlC kNm w A1 c1 d.names)):Stb L w (fun w=>kBuf.r w [.int .i64 d.epoch,.int .i64 d.first,.slice A1 d.names.length c1] d) :=
 fun w' ha=>⟨A1,c1,rfl,h1 w' ha⟩
end Go.Proofs.Ythfkbabgkacfnaa
