/- Buffers that are few: how small they are; what a note comes to. -/
import Derived.Test.YthfkbabgkacfnaaGreatFx
import Derived.Test.YthfkbabgkacfnaaGreatSf3
namespace Go.Proofs.YthfkbabgkacfnaaGreat
open Go Go.RowKit
set_option linter.unusedVariables false
set_option linter.unusedSimpArgs false

theorem fewA_sma {a:Arena} (h:fewA a=true):sma a:=by
 unfold fewA at h
 have h1:=andL h
 have h2:=andR h
 have h3:(a.slots.length:Int)≤12:=by unfold entriesB at h1; simpa using andL h1
 simp only [decide_eq_true_eq] at h2
 exact ⟨entriesB_sml h1 (by decide),by omega,by omega⟩
theorem sameB_iff {a b:Buf}:sameB a b=true↔a=b:=by
 obtain ⟨e,f,n⟩:=a
 obtain ⟨e',f',n'⟩:=b
 unfold sameB
 simp only [Bool.and_eq_true,beq_iff_eq,decide_eq_true_eq,Buf.mk.injEq,and_assoc]
theorem sameB_self (a:Buf):sameB a a=true:=sameB_iff.2 rfl
theorem names_ack (b:Buf) (a:Arena) (m ep up:Int):(ackB b a m ep up).names.length≤b.names.length:=by
 have h:=(mendB_bound b a m).1
 unfold ackB ackM
 cases (((mendB b a m).epoch==ep&&decide ((mendB b a m).first<up))&&decide (up≤(mendB b a m).first + ((mendB b a m).names.length:Int))) with
 | true=>simp only [cond_true,List.length_drop]; omega
 | false=>simp only [cond_false]; omega
theorem some_sml {b:Buf} {a:Arena} (m n:Int) (hb:smB b) (ha:sma a):sml (someB b a m n):=by
 have h:=(mendB_bound b a m).1
 have hl:b.names.length≤1000000:=hb
 refine ⟨by unfold someB; rw [List.length_map,List.length_take]; omega,fun e he=>?_⟩
 unfold someB at he
 obtain ⟨x,hx,rfl⟩:=List.mem_map.1 he
 have:=mend_slot (List.mem_of_mem_take hx)
 exact ha.1.2 _ (by unfold nth; exact getD_mem' (by omega))
end Go.Proofs.YthfkbabgkacfnaaGreat
