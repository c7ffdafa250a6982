/- Data of buffers, as plain structures. -/
import Derived.Test.YtbijobepjjokmaaD2
namespace Go.Proofs.Ytbijobepjjokmaa
open Go Go.RowKit
set_option linter.unusedVariables false
set_option linter.unusedSimpArgs false
structure Nm where
 kind:Int
 key:Str
instance:Inhabited Nm:=⟨⟨(0:Int),([]:Str)⟩⟩
structure Buf where
 epoch:Int
 first:Int
 names:List Nm
instance:Inhabited Buf:=⟨⟨(0:Int),(0:Int),([]:List Nm)⟩⟩
end Go.Proofs.Ytbijobepjjokmaa
