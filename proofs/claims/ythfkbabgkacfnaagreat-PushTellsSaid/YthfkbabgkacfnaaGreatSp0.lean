/- Push: what is told, what is told back, what is done then. -/
import Derived.Test.YthfkbabgkacfnaaGreatPx
import Derived.Test.YthfkbabgkacfnaaGreatSe20
namespace Go.Proofs.YthfkbabgkacfnaaGreat
open Go Go.RowKit
set_option linter.unusedVariables false
set_option linter.unusedSimpArgs false

theorem sml_nil:sml []:=⟨by simp,fun e h=>by cases h⟩
theorem sml_send {b:Buf} {a:Arena} (m c:Int) (hb:smB b) (ha:sma a):sml (sendP b a m c).1.entries:=by
 unfold sendP
 cases noSend (mendB b a m) c with
 | true=>exact sml_nil
 | false=>exact some_sml m c (smB_mend a m hb) ha
theorem sml_heard (f:Frm):sml (heardP f).1.entries:=by
 unfold heardP
 cases isP f 1 with
 | false=>exact sml_nil
 | true=>cases decide ((2147483647:Int)<uptoP f) <;> exact sml_nil
end Go.Proofs.YthfkbabgkacfnaaGreat
