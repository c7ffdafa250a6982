/- Buffers that are few: how small they are; what a note comes to. -/
import Derived.Test.YtpopikeebobjnaaFx
import Derived.Test.YtpopikeebobjnaaSf3
namespace Go.Proofs.Ytpopikeebobjnaa
open Go Go.RowKit
set_option linter.unusedVariables false
set_option linter.unusedSimpArgs false

theorem fewA_sma {a:Arena} (h:fewA a=true):sma a:=by
 unfold fewA at h
 have h1:=andL h
 have h2:=andR h
 have h3:(a.slots.length:Int)≤12:=by unfold entriesB at h1; simpa using andL h1
 simp only [decide_eq_true_eq] at h2
 exact ⟨entriesB_sml h1 (by decide),by omega,by omega⟩
theorem sameB_iff {a b:Buf}:sameB a b=true↔a=b:=by
 obtain ⟨e,f,n⟩:=a
 obtain ⟨e',f',n'⟩:=b
 unfold sameB
 simp only [Bool.and_eq_true,beq_iff_eq,decide_eq_true_eq,Buf.mk.injEq,and_assoc]
theorem sameB_self (a:Buf):sameB a a=true:=sameB_iff.2 rfl
theorem inK_u8 {n:Int} (h:inK .u8 n):0≤n∧n<256:=by
 have h:(decide (IntKind.u8.min≤n)&&decide (n≤IntKind.u8.max))=true:=h
 simp only [Bool.and_eq_true,decide_eq_true_eq] at h
 have e1:IntKind.u8.min=0:=by decide
 have e2:IntKind.u8.max=255:=by decide
 rw [e1,e2] at h; omega
theorem size8 {n:Int} (h:inK .u8 n):∃ m:Nat,IntKind.i64.wrap ((Int.tmod (IntKind.i64.wrap n) (8:Int)) + (1:Int))=(m:Int)∧1≤m∧m≤8:=by
 have:=inK_u8 h
 rw [wrap64 (n:=n) (by omega) (by omega)]
 obtain ⟨k,rfl⟩:=Int.eq_ofNat_of_zero_le this.1
 have e:Int.tmod ((k:Nat):Int) 8=((k % 8:Nat):Int):=by simp [Int.tmod]
 rw [e,wrap64 (by omega) (by omega)]
 exact ⟨k % 8 + 1,by omega,by omega,by omega⟩
theorem mend_ok {b:Buf} {a:Arena} {m:Int} (ho:arOk a=true) (hm:0≤m):okB (mendB b a m) a m=true:=by
 unfold mendB
 cases hc:okB b a m with
 | true=>exact hc
 | false =>
  obtain ⟨h1,h2,h3,h4⟩:=resetB_names b
  simp only [cond_false]
  refine okB_iff.2 ⟨⟨h3,h4⟩,⟨by omega,?_⟩,?_,ho,?_⟩ <;> rw [h1]
  ·rw [h2]; decide
  ·simpa using hm
  ·intro n hn; cases hn
theorem mend_of {b:Buf} {a:Arena} {m:Int} (h:okB b a m=true):mendB b a m=b:=by unfold mendB; rw [h]; rfl
theorem ack_ok {c:Buf} {a:Arena} {m ep up:Int} (hc:okB c a m=true):okB (ackM c ep up) a m=true:=by
 unfold ackM
 cases hd:((c.epoch==ep&&decide (c.first<up))&&decide (up≤c.first + (c.names.length:Int))) with
 | false=>exact hc
 | true =>
  simp only [Bool.and_eq_true,beq_iff_eq,decide_eq_true_eq] at hd
  obtain ⟨h1,h2,h3,h4,h5⟩:=okB_iff.1 hc
  simp only [cond_true]
  refine okB_iff.2 ⟨h1,⟨by show 0≤up; omega,?_⟩,?_,h4,fun n hn=>h5 n (List.mem_of_mem_drop hn)⟩
  ·show up≤2147483647 - (((c.names.drop (up - c.first).toNat).length:Nat):Int)
   simp; omega
  ·show (((c.names.drop (up - c.first).toNat).length:Nat):Int)≤m
   simp; omega
theorem names_note (b:Buf) (a:Arena) (m:Int) (e:Ent):(noteB b a m e).names.length≤b.names.length + 1:=by
 have h:=(mendB_bound b a m).1
 unfold noteB noteM
 cases (decide (findA a e.val.kind e.key<0)||decide (m<1)) with
 | true=>simp only [cond_true]; omega
 | false =>
  simp only [cond_false]
  cases decide (m<(((mendB b a m).names++[(⟨e.val.kind,e.key⟩:Nm)]).length:Int)) with
  | true =>
   simp only [cond_true]
   refine Nat.le_trans (mendB_bound _ a m).1 ?_
   simp; omega
  | false =>
   simp only [cond_false]
   refine Nat.le_trans (mendB_bound _ a m).1 ?_
   simp; omega
theorem names_ack (b:Buf) (a:Arena) (m ep up:Int):(ackB b a m ep up).names.length≤b.names.length:=by
 have h:=(mendB_bound b a m).1
 unfold ackB ackM
 cases (((mendB b a m).epoch==ep&&decide ((mendB b a m).first<up))&&decide (up≤(mendB b a m).first + ((mendB b a m).names.length:Int))) with
 | true=>simp only [cond_true,List.length_drop]; omega
 | false=>simp only [cond_false]; omega
end Go.Proofs.Ytpopikeebobjnaa
