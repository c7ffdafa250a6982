/- BufferTells: what buffer says is what the document says. -/
import Derived.Test.YtpopikeebobjnaaGe1
import Derived.Test.YtpopikeebobjnaaSe20
namespace Go.Proofs.Ytpopikeebobjnaa
open Go Go.RowKit
set_option linter.unusedVariables false
set_option linter.unusedSimpArgs false

theorem bufferTells_ev (b o:Buf) (a:Arena) (m:Int) (e:Ent) (ep up:Int) (gb:GBuf b) (go:GBuf o) (ga:GArena a) (wm:inK .i64 m) (ge:GEnt e) (wep:inK .i64 ep) (wup:inK .i64 up):law16_BufferTells_raw b o a m e ep up true:=by
 refine ⟨fun h=>(by cases h),fun _=>⟨fun f1=>rfl,fun f1=>?_⟩⟩
 have f2:fewB b=true∧fewB o=true∧fewA a=true∧fewE e=true:=by revert f1; cases fewB b <;> cases fewB o <;> cases fewA a <;> cases fewE e <;> simp
 have l0:=fewB_len f2.1
 have l1:=fewB_len f2.2.1
 have s0:smB b:=fewB_smB f2.1
 have s1:smB o:=fewB_smB f2.2.1
 have n0:smN b:=fewB_smN f2.1
 have sa:=fewA_sma f2.2.2.1
 have o0:smB (ofB b):=s0
 have o1:smN (ofB b):=n0
 have o2:smB (resetB b):=by show (resetB b).names.length≤1000000; rw [(resetB_names b).1]; exact Nat.zero_le _
 have o3:smB (ofB (resetB b)):=o2
 have o4:smB (mendB b a m):=Nat.le_trans (mendB_bound b a m).1 s0
 have o5:smB (ofB (mendB b a m)):=o4
 have o6:smB (noteB b a m e):=Nat.le_trans (names_note b a m e) (by omega)
 have o7:smB (ofB (noteB b a m e)):=o6
 have o8:smB (ackB b a m ep up):=Nat.le_trans (names_ack b a m ep up) s0
 have o9:smB (ofB (ackB b a m ep up)):=o8
 have o10:=some_sml m up s0 sa
 repeat' first
  | (refine ⟨_,rfl,?_⟩)
  | (refine ⟨?_,?_⟩; assumption)
  | (refine ⟨fun _=>?_,?_⟩; assumption)
 simp only [ofB,sameB_self,allE_self,checkB_eq,beq_self_eq_true,Bool.and_self]
end Go.Proofs.Ytpopikeebobjnaa
