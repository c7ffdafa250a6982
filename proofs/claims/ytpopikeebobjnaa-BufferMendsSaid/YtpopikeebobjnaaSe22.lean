/- BufferMends: whatever a buffer was, behind any call it may be. -/
import Derived.Test.YtpopikeebobjnaaGe2
import Derived.Test.YtpopikeebobjnaaSe20
namespace Go.Proofs.Ytpopikeebobjnaa
open Go Go.RowKit
set_option linter.unusedVariables false
set_option linter.unusedSimpArgs false

theorem resetB_ok {M:Buf} {a:Arena} {m:Int} (ho:arOk a=true) (hm:0≤m):okB (resetB M) a m=true:=by
 obtain ⟨h1,h2,h3,h4⟩:=resetB_names M
 refine okB_iff.2 ⟨⟨h3,h4⟩,⟨by omega,?_⟩,?_,ho,?_⟩ <;> rw [h1]
 ·rw [h2]; decide
 ·simpa using hm
 ·intro n hn; cases hn
theorem noteB_ok {b:Buf} {a:Arena} {m:Int} (e:Ent) (ho:arOk a=true) (hm:0≤m):okB (noteB b a m e) a m=true:=by
 unfold noteB noteM
 cases (decide (findA a e.val.kind e.key<0)||decide (m<1)) with
 | true=>exact mend_ok ho hm
 | false=>cases decide (m<(((mendB b a m).names++[(⟨e.val.kind,e.key⟩:Nm)]).length:Int)) <;> exact mend_ok ho hm
theorem bufferMends_ev (b:Buf) (a:Arena) (p:Int) (e:Ent) (q r:Int) (gb:GBuf b) (ga:GArena a) (wp:inK .u8 p) (ge:GEnt e) (wq:inK .i64 q) (wr:inK .i64 r):law16_BufferMends_raw b a p e q r true:=by
 refine ⟨fun h=>(by cases h),fun _=>⟨fun c=>?_,fun _=>rfl,fun f1=>?_⟩⟩
 ·have f2:fewB b=true∧fewA a=true:=by revert c; cases fewB b <;> cases fewA a <;> simp
  exact fewA_sma f2.2
 rw [checkA_ne] at f1
 have f2:fewB b=true∧fewA a=true∧arOk a=true:=by revert f1; cases fewB b <;> cases fewA a <;> cases arOk a <;> simp
 obtain ⟨f3,f4,ho⟩:=f2
 have s0:=fewB_smB f3
 have n0:=fewB_smN f3
 have sa:=fewA_sma f4
 obtain ⟨m,hm,hm1,hm8⟩:=size8 wp
 have hm0:(0:Int)≤(m:Int):=by omega
 have s1:smB (mendB b a (m:Int)):=Nat.le_trans (mendB_bound b a (m:Int)).1 s0
 have c1:(checkB (mendB b a (m:Int)) a (m:Int)==(0:Int))=true:=by rw [checkB_eq]; exact mend_ok ho hm0
 have c2:(checkB (resetB b) a (m:Int)==(0:Int))=true:=by rw [checkB_eq]; exact resetB_ok ho hm0
 have c3:(checkB (noteB b a (m:Int) e) a (m:Int)==(0:Int))=true:=by rw [checkB_eq]; exact noteB_ok e ho hm0
 have c4:(checkB (ackB b a (m:Int) q r) a (m:Int)==(0:Int))=true:=by rw [checkB_eq]; exact ack_ok (mend_ok ho hm0)
 have s2:smB (resetB b):=by show (resetB b).names.length≤_; rw [(resetB_names b).1]; exact Nat.zero_le _
 have s3:smB (noteB b a (m:Int) e):=by
  have:=names_note b a (m:Int) e
  have:=fewB_len f3
  show _≤_; omega
 have s4:smB (ackB b a (m:Int) q r):=Nat.le_trans (names_ack b a (m:Int) q r) s0
 simp only [hm]
 refine ⟨s0,sa,_,rfl,s0,sa,_,rfl,fun _=>s1,fun c=>?_,fun _=>⟨fun _=>⟨fun _=>⟨fun _=>⟨fun _=>?_,fun c=>?_⟩,fun c=>?_⟩,fun c=>?_⟩,fun c=>?_⟩⟩
 ·exfalso
  rw [checkB_eq] at c
  have hok:okB b a (m:Int)=true:=by revert c; cases okB b a (m:Int) <;> simp
  rw [mend_of hok,sameB_self,hok] at c; cases c
 ·refine ⟨s1,sa,_,rfl,_,rfl,s2,sa,_,rfl,n0,sa,_,rfl,s3,sa,_,rfl,s0,sa,_,rfl,s4,sa,_,rfl,s0,sa,_,rfl,?_⟩
  try rw [c1,c2,c3,c4]
  have hl:((someB b a (m:Int) r).length:Int)≤(m:Int):=by
   have h3:=(okB_iff.1 (mend_ok (b:=b) ho hm0)).2.2.1
   unfold someB; rw [List.length_map,List.length_take]; omega
  simp [hl]
 ·rw [c4] at c; cases c
 ·rw [c3] at c; cases c
 ·rw [c2] at c; cases c
 ·rw [c1] at c; cases c
end Go.Proofs.Ytpopikeebobjnaa
