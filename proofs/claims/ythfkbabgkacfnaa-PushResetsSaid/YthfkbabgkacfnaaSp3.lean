/- PushTwice: what is heard twice, and what is heard late, takes no name that was not told. -/
import Derived.Test.YthfkbabgkacfnaaGfTwice
import Derived.Test.YthfkbabgkacfnaaSp0
namespace Go.Proofs.Ythfkbabgkacfnaa
open Go Go.RowKit
set_option linter.unusedVariables false
set_option linter.unusedSimpArgs false

theorem send_len {b:Buf} {a:Arena} (m:Int) (c:Nat) (hc:c≤1000) (hb:smB b):(sendP b a m (c:Int)).1.entries.length≤1000000:=by
 unfold sendP
 cases noSend (mendB b a m) (c:Int) with
 | true=>exact Nat.zero_le _
 | false =>
  show (someB _ _ _ _).length≤_
  unfold someB; simp; omega
theorem pushTwice_ev (b:Buf) (a:Arena) (p q r:Int) (gb:GBuf b) (ga:GArena a) (wp:inK .u8 p) (wq:inK .u8 q) (wr:inK .u8 r):law17_PushTwice_raw b a p q r true:=by
 refine ⟨fun h=>(by cases h),fun _=>⟨fun c=>?_,fun _=>rfl,fun f1=>?_⟩⟩
 ·have f2:fewB b=true∧fewA a=true:=by revert c; cases fewB b <;> cases fewA a <;> simp
  exact fewA_sma f2.2
 rw [checkA_ne] at f1
 have f2:fewB b=true∧fewA a=true∧arOk a=true∧((a.slots.length:Int)==0)=false:=by revert f1; cases fewB b <;> cases fewA a <;> cases arOk a <;> cases ((a.slots.length:Int)==0) <;> simp
 obtain ⟨f3,f4,ho,hne⟩:=f2
 have s0:=fewB_smB f3
 have sa:=fewA_sma f4
 obtain ⟨m,hm,hm1,hm8⟩:=size8 wp
 obtain ⟨c,hc,hc1,hc4⟩:=size4 wq
 have hpos:0<a.slots.length:=List.length_pos_iff.2 (by simpa using hne)
 obtain ⟨i,hi,hil⟩:=at_slot wr hpos
 have hxs:nth a.slots (i:Int)∈a.slots:=by rw [nth_nat]; exact getD_mem' hil
 rw [hm,hc,hi]
 have hMo:okB (mendB b a (m:Int)) a (m:Int)=true:=mend_ok ho (by omega)
 have hsl:=sml_send (b:=b) (a:=a) (m:Int) (c:Int) s0 sa
 have hsn:=send_len (b:=b) (a:=a) (m:Int) c (by omega) s0
 refine ⟨s0,sa,_,rfl,s0,sa,_,rfl,hsl,hsn,_,rfl,fun _=>rfl,fun f5=>?_⟩
 have hM:=okB_iff.1 hMo
 have hne2:(mendB b a (m:Int)).names≠[]:=by
  intro e
  rw [send_empty e] at f5
  simp at f5
 have hs:=send_some (c:=c) hne2 hc1 (by omega)
 rw [hs] at f5 ⊢
 have hh:=heard_send (c:=c) hMo hm8
 rw [hh] at f5 ⊢
 have hd:=fun k hk hk2=>done_ack hMo rfl (k:=k) hk hk2
 have hlp:0<(mendB b a (m:Int)).names.length:=List.length_pos_iff.2 hne2
 have hr:=some_len hMo (c:Int)
 generalize mendB b a (m:Int)=M at *
 obtain ⟨hE,hF,hN,_,hA⟩:=hM
 generalize hkk:min c M.names.length=k at *
 have hk1:1≤k:=by omega
 have hk2:k≤M.names.length:=by omega
 have hd:=hd k hk1 hk2
 have hok1:=ok_drop hMo hk2
 have hfi:M.first≤2147483000:=by simp at f5; omega
 have hlo:(M.names.drop k).length=M.names.length - k:=List.length_drop
 -- once
 have e1:smB (⟨M.epoch,M.first + (k:Int),M.names.drop k⟩:Buf):=by show (M.names.drop k).length≤_; omega
 have e1n:smN (⟨M.epoch,M.first + (k:Int),M.names.drop k⟩:Buf):=by show (M.names.drop k).length≤_; omega
 have hP:isP (ackF M k) 2=true:=by unfold isP; rw [ack_frame hMo hk2]; rfl
 have hag:∀ B:Buf,okB B a (m:Int)=true→B.first=M.first + (k:Int)→doneP B a (m:Int) (ackF M k)=B:=fun B hB hBf=>by
  unfold doneP
  rw [hP]
  show ackB B a (m:Int) M.epoch (M.first + (k:Int))=_
  unfold ackB ackM
  rw [mend_of hB,hBf]
  simp
 have htw:=hag _ hok1 rfl
 obtain ⟨hn1,hn2⟩:=note_ok hok1 hm1 hm8 hxs (by show M.first + (k:Int)≤_; omega)
 have hlate:=hag _ hn2 (by rw [hn1]; show M.first + (k:Int) + _=_; simp only [hlo]; omega)
 have hnl:=names_note (⟨M.epoch,M.first + (k:Int),M.names.drop k⟩:Buf) a (m:Int) (nth a.slots (i:Int))
 refine ⟨s0,sa,sml_nil,Nat.zero_le _,_,rfl,?_⟩
 rw [hd]
 refine ⟨e1,sa,sml_nil,Nat.zero_le _,_,rfl,hne,⟨by omega,by omega⟩,e1n,sa,_,rfl,?_,sa,sml_nil,Nat.zero_le _,_,rfl,e1n,sa,_,rfl,e1,fun _=>?_,?_⟩
 ·show (noteB _ _ _ _).names.length≤_
  have:(M.names.drop k).length≤8:=by omega
  exact Nat.le_trans hnl (by show (M.names.drop k).length + 1≤_; omega)
 ·rw [hlate]
  exact Nat.le_trans hnl (by show (M.names.drop k).length + 1≤_; omega)
 ·rw [htw,hlate,sameB_self,sameB_self]
  have:IntKind.i64.wrap (M.first + ((sendM M a (m:Int) (c:Int)).entries.length:Int))=M.first + (k:Int):=by
   show IntKind.i64.wrap (M.first + ((someB M a (m:Int) (c:Int)).length:Int))=_
   rw [hr,Int.toNat_natCast,hkk,wrap64 (by omega) (by omega)]
  rw [this]; simp
end Go.Proofs.Ythfkbabgkacfnaa
