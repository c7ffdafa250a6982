/- PushResets: what was told of one epoch takes no name of another one. -/
import Derived.Test.YthfkbabgkacfnaaGfResets
import Derived.Test.YthfkbabgkacfnaaSp3
namespace Go.Proofs.Ythfkbabgkacfnaa
open Go Go.RowKit
set_option linter.unusedVariables false
set_option linter.unusedSimpArgs false

theorem reset_ok {M:Buf} {a:Arena} {m:Int} (ho:arOk a=true) (hm:0≤m):okB (resetB M) a m=true:=by
 obtain ⟨h1,h2,h3,h4⟩:=resetB_names M
 refine okB_iff.2 ⟨⟨h3,h4⟩,⟨by omega,?_⟩,?_,ho,?_⟩ <;> rw [h1]
 ·rw [h2]; decide
 ·simpa using hm
 ·intro n hn; cases hn
theorem reset_epoch (M:Buf):(resetB M).epoch≠M.epoch:=by
 unfold resetB
 cases hc:(decide (M.epoch<0)||decide (2147483647≤M.epoch)) with
 | true =>
  simp only [Bool.or_eq_true,decide_eq_true_eq] at hc
  show (0:Int)≠M.epoch; omega
 | false=>show M.epoch + 1≠M.epoch; omega
theorem pushResets_ev (b:Buf) (a:Arena) (p q r:Int) (gb:GBuf b) (ga:GArena a) (wp:inK .u8 p) (wq:inK .u8 q) (wr:inK .u8 r):law17_PushResets_raw b a p q r true:=by
 refine ⟨fun h=>(by cases h),fun _=>⟨fun c=>?_,fun _=>rfl,fun f1=>?_⟩⟩
 ·have f2:fewB b=true∧fewA a=true:=by revert c; cases fewB b <;> cases fewA a <;> simp
  exact fewA_sma f2.2
 rw [checkA_ne] at f1
 have f2:fewB b=true∧fewA a=true∧arOk a=true∧((a.slots.length:Int)==0)=false:=by revert f1; cases fewB b <;> cases fewA a <;> cases arOk a <;> cases ((a.slots.length:Int)==0) <;> simp
 obtain ⟨f3,f4,ho,hne⟩:=f2
 have s0:=fewB_smB f3
 have sa:=fewA_sma f4
 obtain ⟨m,hm,hm1,hm8⟩:=size8 wp
 obtain ⟨c,hc,hc1,hc4⟩:=size4 wq
 have hpos:0<a.slots.length:=List.length_pos_iff.2 (by simpa using hne)
 obtain ⟨i,hi,hil⟩:=at_slot wr hpos
 have hxs:nth a.slots (i:Int)∈a.slots:=by rw [nth_nat]; exact getD_mem' hil
 rw [hm,hc,hi]
 have hMo:okB (mendB b a (m:Int)) a (m:Int)=true:=mend_ok ho (by omega)
 have hsl:=sml_send (b:=b) (a:=a) (m:Int) (c:Int) s0 sa
 have hsn:=send_len (b:=b) (a:=a) (m:Int) c (by omega) s0
 refine ⟨s0,sa,_,rfl,hsl,hsn,_,rfl,fun _=>rfl,fun f5=>?_⟩
 have hne2:(mendB b a (m:Int)).names≠[]:=by
  intro e
  rw [send_empty e] at f5
  simp at f5
 have hs:=send_some (c:=c) hne2 hc1 (by omega)
 rw [hs] at f5 ⊢
 have hh:=heard_send (c:=c) hMo hm8
 rw [hh] at f5 ⊢
 have hlp:0<(mendB b a (m:Int)).names.length:=List.length_pos_iff.2 hne2
 refine ⟨hne,⟨by omega,by omega⟩,s0,sa,_,rfl,_,rfl,?_⟩
 generalize mendB b a (m:Int)=M at *
 have hk2:min c M.names.length≤M.names.length:=by omega
 generalize min c M.names.length=k at *
 have hRo:okB (resetB M) a (m:Int)=true:=reset_ok ho (by omega)
 obtain ⟨r1,r2,r3,r4⟩:=resetB_names M
 have hre:=reset_epoch M
 obtain ⟨hn1,hn2⟩:=note_ok hRo hm1 hm8 hxs (by rw [r2]; decide)
 have hP:isP (ackF M k) 2=true:=by unfold isP; rw [ack_frame hMo hk2]; rfl
 have hcl:(noteB (resetB M) a (m:Int) (nth a.slots (i:Int))).names.length=1:=by
  rw [hn1,r1]
  have:([]:List Nm).length + 1 - m=0:=by simp; omega
  rw [this]; rfl
 have hce:(noteB (resetB M) a (m:Int) (nth a.slots (i:Int))).epoch=(resetB M).epoch:=by rw [hn1]
 have hdone:doneP (noteB (resetB M) a (m:Int) (nth a.slots (i:Int))) a (m:Int) (ackF M k)=noteB (resetB M) a (m:Int) (nth a.slots (i:Int)):=by
  unfold doneP
  rw [hP]
  show ackB _ a (m:Int) M.epoch (M.first + (k:Int))=_
  unfold ackB ackM
  rw [mend_of hn2,hce]
  have:((resetB M).epoch==M.epoch)=false:=by rw [beq_eq_false_iff_ne]; exact hre
  rw [this]; rfl
 have hsb:smB (noteB (resetB M) a (m:Int) (nth a.slots (i:Int))):=by show _≤1000000; rw [hcl]; decide
 refine ⟨by show (resetB M).names.length≤_; rw [r1]; exact Nat.zero_le _,sa,_,rfl,hsb,sa,sml_nil,Nat.zero_le _,_,rfl,by rw [hdone]; exact hsb,?_⟩
 rw [hdone,sameB_self,hcl]; rfl
end Go.Proofs.Ythfkbabgkacfnaa
