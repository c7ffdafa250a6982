/- Push: what is told, what is told back, what is done then. -/
import Derived.Test.YthfkbabgkacfnaaPx
import Derived.Test.YthfkbabgkacfnaaSe20
namespace Go.Proofs.Ythfkbabgkacfnaa
open Go Go.RowKit
set_option linter.unusedVariables false
set_option linter.unusedSimpArgs false

def slotA (a:Arena) (x:Nm):Ent:=nth a.slots (findA a x.kind x.key)
theorem some_of {M:Buf} {a:Arena} {m:Int} (hM:okB M a m=true) (c:Int):someB M a m c=(M.names.take c.toNat).map (slotA a):=by
 unfold someB; rw [mend_of hM]; rfl
theorem send_some {b:Buf} {a:Arena} {m:Int} {c:Nat} (h:(mendB b a m).names≠[]) (h1:1≤c) (h8:c≤8):sendP b a m (c:Int)=(sendM (mendB b a m) a m (c:Int),true):=by
 have hl:0<(mendB b a m).names.length:=List.length_pos_iff.2 h
 have:noSend (mendB b a m) (c:Int)=false:=by unfold noSend; simp [h]; omega
 unfold sendP; rw [this]; rfl
theorem sml_nil:sml []:=⟨by simp,fun e h=>by cases h⟩
theorem sml_send {b:Buf} {a:Arena} (m c:Int) (hb:smB b) (ha:sma a):sml (sendP b a m c).1.entries:=by
 unfold sendP
 cases noSend (mendB b a m) c with
 | true=>exact sml_nil
 | false=>exact some_sml m c (smB_mend a m hb) ha
end Go.Proofs.Ythfkbabgkacfnaa
