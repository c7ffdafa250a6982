/- Buffers that are few: how small they are; what a note comes to. -/
import Derived.Test.YthfkbabgkacfnaaFx
import Derived.Test.YthfkbabgkacfnaaSf3
namespace Go.Proofs.Ythfkbabgkacfnaa
open Go Go.RowKit
set_option linter.unusedVariables false
set_option linter.unusedSimpArgs false

theorem fewA_sma {a:Arena} (h:fewA a=true):sma a:=by
 unfold fewA at h
 have h1:=andL h
 have h2:=andR h
 have h3:(a.slots.length:Int)≤12:=by unfold entriesB at h1; simpa using andL h1
 simp only [decide_eq_true_eq] at h2
 exact ⟨entriesB_sml h1 (by decide),by omega,by omega⟩
theorem inK_u8 {n:Int} (h:inK .u8 n):0≤n∧n<256:=by
 have h:(decide (IntKind.u8.min≤n)&&decide (n≤IntKind.u8.max))=true:=h
 simp only [Bool.and_eq_true,decide_eq_true_eq] at h
 have e1:IntKind.u8.min=0:=by decide
 have e2:IntKind.u8.max=255:=by decide
 rw [e1,e2] at h; omega
theorem at_slot {n:Int} {l:Nat} (h:inK .u8 n) (hl:0<l):∃ i:Nat,Int.tmod (IntKind.i64.wrap n) (l:Int)=(i:Int)∧i<l:=by
 have:=inK_u8 h
 rw [wrap64 (n:=n) (by omega) (by omega)]
 obtain ⟨k,rfl⟩:=Int.eq_ofNat_of_zero_le this.1
 exact ⟨k % l,by simp [Int.tmod],Nat.mod_lt _ hl⟩
theorem find_in {a:Arena} (ho:arOk a=true) {x:Ent} (hx:x∈a.slots):0≤findA a x.val.kind x.key∧findA a x.val.kind x.key<(a.slots.length:Int):=by
 rw [findA_ok' ho]
 rcases findL_cs a.slots x.val.kind x.key with ⟨h1,h2⟩ | ⟨i,h1,h2,_⟩
 ·obtain ⟨i,hi,rfl⟩:=List.getElem_of_mem hx
  have:=h2 i hi
  simp [isN,hi] at this
 ·omega
theorem mend_ok {b:Buf} {a:Arena} {m:Int} (ho:arOk a=true) (hm:0≤m):okB (mendB b a m) a m=true:=by
 unfold mendB
 cases hc:okB b a m with
 | true=>exact hc
 | false =>
  obtain ⟨h1,h2,h3,h4⟩:=resetB_names b
  simp only [cond_false]
  refine okB_iff.2 ⟨⟨h3,h4⟩,⟨by omega,?_⟩,?_,ho,?_⟩ <;> rw [h1]
  ·rw [h2]; decide
  ·simpa using hm
  ·intro n hn; cases hn
theorem mend_of {b:Buf} {a:Arena} {m:Int} (h:okB b a m=true):mendB b a m=b:=by unfold mendB; rw [h]; rfl
theorem note_mend {b:Buf} {a:Arena} {m:Int} {x:Ent} (ho:arOk a=true) (hm:0≤m):noteB b a m x=noteB (mendB b a m) a m x:=by
 unfold noteB; rw [mend_of (mend_ok ho hm)]
/-- What a note comes to. -/
theorem note_ok {c : Buf} {a : Arena} {m : Nat} {x : Ent} (hc : okB c a (m : Int) = true) (hm : 1 ≤ m) (hm2 : m ≤ 8) (hx : x ∈ a.slots) (hf : c.first ≤ 2147483600) :
    noteB c a (m : Int) x = ⟨c.epoch, c.first + ((c.names.length + 1 - m : Nat) : Int), (c.names ++ [(⟨x.val.kind, x.key⟩ : Nm)]).drop (c.names.length + 1 - m)⟩ ∧ okB (noteB c a (m : Int) x) a (m : Int) = true := by
  obtain ⟨h1, h2, h3, h4, h5⟩ := okB_iff.1 hc
  have hin := find_in h4 hx
  have hall : ∀ n ∈ c.names ++ [(⟨x.val.kind, x.key⟩ : Nm)], 0 ≤ findA a n.kind n.key := fun n hn => by
    rcases List.mem_append.1 hn with h | h
    · exact h5 n h
    · rw [List.mem_singleton] at h; rw [h]; exact hin.1
  have hcnd : (decide (findA a x.val.kind x.key < 0) || decide ((m : Int) < 1)) = false := by simp; omega
  have hg : ∀ g : Nat, g ≤ 1 → ((c.names.length + 1 - g : Nat) : Int) ≤ m → okB ⟨c.epoch, c.first + (g : Int), (c.names ++ [(⟨x.val.kind, x.key⟩ : Nm)]).drop g⟩ a (m : Int) = true := fun g hg1 hg2 => by
    refine okB_iff.2 ⟨h1, ⟨?_, ?_⟩, ?_, h4, fun n hn => hall n (List.mem_of_mem_drop hn)⟩
    · show 0 ≤ c.first + (g : Int); omega
    · show c.first + (g : Int) ≤ 2147483647 - ((((c.names ++ [(⟨x.val.kind, x.key⟩ : Nm)]).drop g).length : Nat) : Int)
      simp; omega
    · show ((((c.names ++ [(⟨x.val.kind, x.key⟩ : Nm)]).drop g).length : Nat) : Int) ≤ m
      simp; omega
  have key : noteB c a (m : Int) x = ⟨c.epoch, c.first + ((c.names.length + 1 - m : Nat) : Int), (c.names ++ [(⟨x.val.kind, x.key⟩ : Nm)]).drop (c.names.length + 1 - m)⟩ := by
    unfold noteB noteM
    rw [mend_of hc, hcnd, cond_false]
    by_cases hlt : m < c.names.length + 1
    · have e : c.names.length + 1 - m = 1 := by omega
      have hd : decide ((m : Int) < ((c.names ++ [(⟨x.val.kind, x.key⟩ : Nm)]).length : Int)) = true := by simp; omega
      rw [hd, e, cond_true]
      exact mend_of (hg 1 (Nat.le_refl _) (by omega))
    · have e : c.names.length + 1 - m = 0 := by omega
      have hd : decide ((m : Int) < ((c.names ++ [(⟨x.val.kind, x.key⟩ : Nm)]).length : Int)) = false := by simp; omega
      rw [hd, e, cond_false]
      have := mend_of (hg 0 (by omega) (by omega))
      simpa using this
  refine ⟨key, ?_⟩
  rw [key]
  exact hg _ (by omega) (by omega)
theorem names_note (b:Buf) (a:Arena) (m:Int) (e:Ent):(noteB b a m e).names.length≤b.names.length + 1:=by
 have h:=(mendB_bound b a m).1
 unfold noteB noteM
 cases (decide (findA a e.val.kind e.key<0)||decide (m<1)) with
 | true=>simp only [cond_true]; omega
 | false =>
  simp only [cond_false]
  cases decide (m<(((mendB b a m).names++[(⟨e.val.kind,e.key⟩:Nm)]).length:Int)) with
  | true =>
   simp only [cond_true]
   refine Nat.le_trans (mendB_bound _ a m).1 ?_
   simp; omega
  | false =>
   simp only [cond_false]
   refine Nat.le_trans (mendB_bound _ a m).1 ?_
   simp; omega
theorem some_sml {b:Buf} {a:Arena} (m n:Int) (hb:smB b) (ha:sma a):sml (someB b a m n):=by
 have h:=(mendB_bound b a m).1
 have hl:b.names.length≤1000000:=hb
 refine ⟨by unfold someB; rw [List.length_map,List.length_take]; omega,fun e he=>?_⟩
 unfold someB at he
 obtain ⟨x,hx,rfl⟩:=List.mem_map.1 he
 have:=mend_slot (List.mem_of_mem_take hx)
 exact ha.1.2 _ (by unfold nth; exact getD_mem' (by omega))
end Go.Proofs.Ythfkbabgkacfnaa
