import Derived.Test.YthbfhgenkhkpfaaGreatEw
namespace Go.Proofs.YthbfhgenkhkpfaaGreat
open Go Go.RowKit
set_option linter.unusedVariables false
set_option linter.unusedSimpArgs false

theorem sml_set {l:List Ent} (h:sml l) {i:Nat} {x:Ent} (hx:sm x.val):sml (l.set i x):=⟨by rw [List.length_set]; exact h.1,fun e he=>by
 rcases List.mem_or_eq_of_mem_set he with h1 | h1
 ·exact h.2 e h1
 ·rw [h1]; exact hx⟩
theorem sma_join {a:Arena} {e:Ent} (ha:sma a) (he:sm e.val):sma (joinA a e).1:=by
 unfold joinA
 cases hc:(!arOk a||!okE e) with
 | true=>exact ha
 | false =>
  rw [cond_false]
  have ho:arOk a=true∧okE e=true:=by revert hc; cases arOk a <;> cases okE e <;> simp
  have hl:=(arOk_iff.1 ho.1).1
  cases hc2:(decide (findA a e.val.kind e.key<0)&&((a.slots.length:Int)==a.cap)) with
  | true=>exact ha
  | false =>
   rw [cond_false]
   cases hc3:decide (findA a e.val.kind e.key<0) with
   | true =>
    rw [cond_true]
    refine ⟨⟨?_,fun x hx=>?_⟩,?_,?_⟩
    ·simp; omega
    ·rcases List.mem_append.1 hx with h | h
     ·exact ha.1.2 x h
     ·rw [List.mem_singleton] at h; rw [h]; exact he
    ·simp; omega
    ·show (idxR (a.slots++[e])).length≤9223372036854775807
     rw [idxR_length]; simp; omega
   | false =>
    rw [cond_false]
    have hf:¬ findA a e.val.kind e.key<0:=by simpa using hc3
    have hr:findA a e.val.kind e.key<(a.slots.length:Int):=by
     rw [findA_ok ho.1] at hf ⊢
     rcases findL_spec a.slots e.val.kind e.key with ⟨e1,_⟩ | ⟨j,hj,e1,_⟩ <;> omega
    exact ⟨sml_set ha.1 (sm_joinE (sml_nth ha.1 (by omega) hr) he),by show (a.slots.set _ _).length≤9223372036854775807; rw [List.length_set]; exact ha.2.1,ha.2.2⟩
end Go.Proofs.YthbfhgenkhkpfaaGreat