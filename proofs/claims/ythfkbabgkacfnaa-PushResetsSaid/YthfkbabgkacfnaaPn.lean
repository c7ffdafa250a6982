/- Push in plain Lean: what each function comes to. -/
import Derived.Test.YthfkbabgkacfnaaPd
namespace Go.Proofs.Ythfkbabgkacfnaa
open Go Go.RowKit
set_option linter.unusedVariables false
set_option linter.unusedSimpArgs false

def frm0:Frm:=⟨(0:Int),(0:Int),(0:Int),[(0:Int),(0:Int),(0:Int),(0:Int)],([]:List Ent)⟩
def noSend (b:Buf) (c:Int):Bool:=((((b.names.length:Int)==(0:Int))||(decide (c<(1:Int))))||(decide ((8:Int)<c)))
def sendM (b:Buf) (a:Arena) (m c:Int):Frm:=⟨(1:Int),b.epoch,b.first,[(0:Int),(0:Int),(0:Int),(0:Int)],someB b a m c⟩
def sendP (b:Buf) (a:Arena) (m c:Int):Frm × Bool:=bif noSend (mendB b a m) c then (frm0,false) else (sendM (mendB b a m) a m c,true)
def isP (f:Frm) (k:Int):Bool:=((checkF f)==(0:Int))&&(f.kind==k)
def uptoP (f:Frm):Int:=(IntKind.i64.wrap (f.b + (f.entries.length:Int)))
def heardP (f:Frm):Frm × Bool:=bif isP f 1 then (bif decide ((2147483647:Int)<uptoP f) then (frm0,false) else (⟨(2:Int),f.a,uptoP f,[(0:Int),(0:Int),(0:Int),(0:Int)],([]:List Ent)⟩,true)) else (frm0,false)
def doneP (b:Buf) (a:Arena) (m:Int) (f:Frm):Buf:=bif isP f 2 then ackB b a m f.a f.b else mendB b a m

theorem smB_mend {b:Buf} (a:Arena) (m:Int) (hb:smB b):smB (mendB b a m):=Nat.le_trans (mendB_bound b a m).1 hb
theorem puSend_ev (b:Buf) (a:Arena) (m c:Int) (hb:smB b) (ha:sma a):push_Send_raw b a m c (sendP b a m c):=by
 refine ⟨hb,ha,_,rfl,fun hc=>?_,fun hc=>⟨smB_mend a m hb,ha,_,rfl,?_⟩⟩
 ·have h1:noSend (mendB b a m) c=true:=hc
  unfold sendP; rw [h1]; rfl
 ·have h1:noSend (mendB b a m) c=false:=hc
  unfold sendP; rw [h1]; rfl
theorem puHeard_ev (f:Frm) (h:sml f.entries) (hl:f.entries.length≤1000000):push_Heard_raw f (heardP f):=by
 refine ⟨isP f 1,⟨h,hl,rfl⟩,fun hc=>?_,fun hc=>⟨_,rfl,fun hd=>?_,fun hd=>⟨_,rfl,?_⟩⟩⟩
 ·have h1:isP f 1=false:=by simpa using hc
  unfold heardP; rw [h1]; rfl
 ·have h1:isP f 1=true:=by simpa using hc
  have h2:decide ((2147483647:Int)<uptoP f)=true:=hd
  unfold heardP; rw [h1,h2]; rfl
 ·have h1:isP f 1=true:=by simpa using hc
  have h2:decide ((2147483647:Int)<uptoP f)=false:=hd
  unfold heardP; rw [h1,h2]; rfl
theorem puDone_ev (b:Buf) (a:Arena) (m:Int) (f:Frm) (hb:smB b) (ha:sma a) (h:sml f.entries) (hl:f.entries.length≤1000000):push_Done_raw b a m f (doneP b a m f):=by
 refine ⟨isP f 2,⟨h,hl,rfl⟩,fun hc=>⟨hb,ha,_,rfl,?_⟩,fun hc=>⟨hb,ha,_,rfl,?_⟩⟩
 ·unfold doneP; rw [hc]; rfl
 ·unfold doneP; rw [hc]; rfl
end Go.Proofs.Ythfkbabgkacfnaa
