/- Data of frames, as plain structures. -/
import Derived.Test.YtbijobepjjokmaaD3
import Derived.Test.YtbijobepjjokmaaWm
namespace Go.Proofs.Ytbijobepjjokmaa
open Go Go.RowKit
set_option linter.unusedVariables false
set_option linter.unusedSimpArgs false
structure Frm where
 kind:Int
 a:Int
 b:Int
 sums:List Int
 entries:List Ent
instance:Inhabited Frm:=⟨⟨(0:Int),(0:Int),(0:Int),[(0:Int),(0:Int),(0:Int),(0:Int)],([]:List Ent)⟩⟩
structure Ltr where
 frame:Frm
instance:Inhabited Ltr:=⟨⟨(⟨(0:Int),(0:Int),(0:Int),[(0:Int),(0:Int),(0:Int),(0:Int)],([]:List Ent)⟩:Frm)⟩⟩
structure Fm where
 la:Int
 ma:Int
 mb:Int
 sums:Bool
 ents:Bool
instance:Inhabited Fm:=⟨⟨(0:Int),(0:Int),(0:Int),false,false⟩⟩
end Go.Proofs.Ytbijobepjjokmaa
