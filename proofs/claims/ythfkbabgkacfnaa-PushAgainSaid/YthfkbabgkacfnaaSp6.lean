/- PushAgain: what was told, and not heard, is told again, just so. -/
import Derived.Test.YthfkbabgkacfnaaGfAgain
import Derived.Test.YthfkbabgkacfnaaSp0
namespace Go.Proofs.Ythfkbabgkacfnaa
open Go Go.RowKit
set_option linter.unusedVariables false
set_option linter.unusedSimpArgs false

theorem size7 {n:Int} (h:inK .u8 n):∃ m:Nat,IntKind.i64.wrap ((Int.tmod (IntKind.i64.wrap n) (7:Int)) + (1:Int))=(m:Int)∧1≤m∧m≤7:=by
 have:=inK_u8 h
 rw [wrap64 (n:=n) (by omega) (by omega)]
 obtain ⟨k,rfl⟩:=Int.eq_ofNat_of_zero_le this.1
 have e:Int.tmod ((k:Nat):Int) 7=((k % 7:Nat):Int):=by simp [Int.tmod]
 rw [e,wrap64 (by omega) (by omega)]
 exact ⟨k % 7 + 1,by omega,by omega,by omega⟩
theorem smC_of {b:Buf} (g:GBuf b):smC b:=g.2.2.1
theorem sma_of {a:Arena} (g:GArena a):sma a :=
 ⟨⟨g.2.1.1,fun e he=>⟨(g.2.1.2 e he).2.2.2.1,(g.2.1.2 e he).2.2.2.2⟩⟩,g.2.1.1,g.2.2.1⟩
theorem sameF_self' (f:Frm):sameF f f=true:=by unfold sameF; simp [allE_self]
theorem pushAgain_ev (b:Buf) (a:Arena) (p q:Int) (gb:GBuf b) (ga:GArena a) (wp:inK .u8 p) (wq:inK .u8 q):law17_PushAgain_raw b a p q true:=by
 refine ⟨fun h=>(by cases h),fun _=>⟨smC_of gb,sma_of ga,_,rfl,fun _=>sma_of ga,fun _=>rfl,fun f1=>?_⟩⟩
 obtain ⟨m,hm,hm1,hm7⟩:=size7 wp
 rw [hm] at f1 ⊢
 rw [checkA_ne] at f1
 simp only [Bool.or_eq_false_iff,Bool.not_eq_false',Bool.and_eq_true,decide_eq_false_iff_not] at f1
 obtain ⟨⟨⟨⟨⟨⟨f3,f4⟩,ho⟩,hne⟩,hn0⟩,hlt⟩,hfi⟩:=f1
 have s0:=fewB_smB f3
 have n0:=fewB_smN f3
 have sa:=fewA_sma f4
 have hpos:0<a.slots.length:=List.length_pos_iff.2 (by simpa using hne)
 obtain ⟨i,hi,hil⟩:=at_slot wq hpos
 have hxs:nth a.slots (i:Int)∈a.slots:=by rw [nth_nat]; exact getD_mem' hil
 rw [hi]
 have hMo:okB (mendB b a (m:Int)) a (m:Int)=true:=mend_ok ho (by omega)
 have hne2:(mendB b a (m:Int)).names≠[]:=by simpa using hn0
 have hs:sendP b a (m:Int) (1:Int)=(sendM (mendB b a (m:Int)) a (m:Int) (1:Int),true):=send_some (c:=1) hne2 (by omega) (by omega)
 obtain ⟨hk,hok⟩:=note_ok hMo hm1 (by omega) hxs (by omega)
 rw [← note_mend ho (by omega)] at hk hok
 have hnl:=names_note b a (m:Int) (nth a.slots (i:Int))
 have hsx:smB (noteB b a (m:Int) (nth a.slots (i:Int))):=by
  have:=fewB_len f3
  show _≤_; omega
 have hsl:=sml_send (b:=b) (a:=a) (m:Int) (1:Int) s0 sa
 generalize mendB b a (m:Int)=M at *
 have hgone:M.names.length + 1 - m=0:=by omega
 rw [hgone] at hk
 have hk':noteB b a (m:Int) (nth a.slots (i:Int))=⟨M.epoch,M.first,M.names++[(⟨(nth a.slots (i:Int)).val.kind,(nth a.slots (i:Int)).key⟩:Nm)]⟩:=by rw [hk]; simp
 have hs2:sendP (noteB b a (m:Int) (nth a.slots (i:Int))) a (m:Int) (1:Int)=(sendM (noteB b a (m:Int) (nth a.slots (i:Int))) a (m:Int) (1:Int),true):=by
  have:=send_some (b:=noteB b a (m:Int) (nth a.slots (i:Int))) (a:=a) (m:=(m:Int)) (c:=1) (by rw [mend_of hok,hk']; simp) (by omega) (by omega)
  rw [mend_of hok] at this; exact this
 have heq:sendM (noteB b a (m:Int) (nth a.slots (i:Int))) a (m:Int) (1:Int)=sendM M a (m:Int) (1:Int):=by
  unfold sendM
  rw [some_of hok,some_of hMo,hk']
  simp only [Frm.mk.injEq,true_and]
  congr 1
  have hl:0<M.names.length:=List.length_pos_iff.2 hne2
  show (M.names++_).take 1=M.names.take 1
  rw [List.take_append_of_le_length (by omega)]
 refine ⟨s0,sa,_,rfl,s0,sa,_,rfl,hne,⟨by omega,by omega⟩,n0,sa,_,rfl,hsx,sa,_,rfl,fun _=>hsl,fun _=>hsl,?_⟩
 rw [hs2,hs,heq,sameF_self']; rfl
end Go.Proofs.Ythfkbabgkacfnaa
