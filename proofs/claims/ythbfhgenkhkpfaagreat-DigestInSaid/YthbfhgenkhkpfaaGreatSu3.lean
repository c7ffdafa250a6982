/- DigestIn: the slots of all buckets are all; those of one are not those of another. -/
import Derived.Test.YthbfhgenkhkpfaaGreatGjIn
import Derived.Test.YthbfhgenkhkpfaaGreatSu1
namespace Go.Proofs.YthbfhgenkhkpfaaGreat
open Go Go.RowKit
set_option linter.unusedVariables false
set_option linter.unusedSimpArgs false
theorem has15:∀ b,b<4→hasB 15 ((b:Nat):Int)=true:=by decide
theorem has0:∀ b,b<4→hasB 0 ((b:Nat):Int)=false:=by decide
theorem hasK:∀ k,k<4→∀ b,b<4→hasB ((2 ^ k:Nat):Int) ((b:Nat):Int)=(b==k):=by decide
theorem okMK:∀ k,k<4→okM ((2 ^ k:Nat):Int)=true:=by decide
theorem askK {k:Nat} (hk:k<4) (e:Ent):askE ((2 ^ k:Nat):Int) e=(bktE e==(k:Int)):=by
 obtain ⟨b,hb,eb⟩:=bkt_nat e
 unfold askE
 rw [eb,hasK k hk b hb]
 by_cases h:b=k
 ·subst h; simp
 ·rw [show (b==k)=false by simpa using h,show (((b:Nat):Int)==((k:Nat):Int))=false by simp; omega]
def cntK (k:Nat) (l:List Ent):Nat:=(l.filter (askE ((2 ^ k:Nat):Int))).length
def totK (l:List Ent):Nat→Nat
 | 0=>0
 | k + 1=>totK l k + cntK k l
theorem cnt_cons (k:Nat) (e:Ent) (l:List Ent):cntK k (e::l)=(bif askE ((2 ^ k:Nat):Int) e then 1 else 0) + cntK k l:=by
 unfold cntK
 rw [List.filter_cons]
 cases askE ((2 ^ k:Nat):Int) e
 ·simp
 ·simp; omega
theorem tot_all:∀ (l:List Ent),totK l 4=l.length
 | []=>rfl
 | e::l=>by
  have ih:=tot_all l
  simp only [totK] at ih ⊢
  rw [cnt_cons,cnt_cons,cnt_cons,cnt_cons,askK (by decide),askK (by decide),askK (by decide),askK (by decide)]
  have hs:(bif bktE e==((0:Nat):Int) then 1 else 0) + (bif bktE e==((1:Nat):Int) then 1 else 0) + (bif bktE e==((2:Nat):Int) then 1 else 0) + (bif bktE e==((3:Nat):Int) then 1 else 0)=1:=by
   rcases bkt4 e with h | h | h | h <;> rw [h] <;> rfl
  rw [List.length_cons]
  omega
theorem cnt_le (k:Nat) (l:List Ent):cntK k l≤l.length:=List.length_filter_le _ _
theorem tot_le (l:List Ent):∀ k,totK l k≤k * l.length
 | 0=>by simp [totK]
 | k + 1=>by
  have:=tot_le l k
  have h2:=cnt_le k l
  unfold totK
  rw [Nat.add_mul,Nat.one_mul]; omega
theorem in_all {a:Arena} (ho:arOk a=true):inD a 15 100=a.slots:=by
 have h8:=(ok_slots8 ho).1
 unfold inD
 rw [ho]
 show (a.slots.filter (askE 15)).take 100=a.slots
 have:a.slots.filter (askE 15)=a.slots:=List.filter_eq_self.2 fun e _=>by
  obtain ⟨b,hb,eb⟩:=bkt_nat e
  unfold askE; rw [eb]; exact has15 b hb
 rw [this,List.take_of_length_le (by omega)]
theorem in_none {a:Arena} (ho:arOk a=true):inD a 0 100=[]:=by
 unfold inD
 rw [ho]
 show (a.slots.filter (askE 0)).take 100=[]
 have:a.slots.filter (askE 0)=[]:=List.filter_eq_nil_iff.2 fun e _=>by
  obtain ⟨b,hb,eb⟩:=bkt_nat e
  unfold askE; rw [eb,has0 b hb]; decide
 rw [this]; rfl
theorem in_k {a:Arena} (ho:arOk a=true) {k:Nat} (hk:k<4):inD a ((2 ^ k:Nat):Int) 100=a.slots.filter (askE ((2 ^ k:Nat):Int)):=by
 have h8:=(ok_slots8 ho).1
 unfold inD
 rw [ho,okMK k hk]
 show (a.slots.filter (askE ((2 ^ k:Nat):Int))).take 100=_
 exact List.take_of_length_le (Nat.le_trans (List.length_filter_le _ _) (by omega))
theorem in_len (a:Arena) (m k:Int):((inD a m k).length:Int)=0∨((inD a m k).length:Int)≤k:=by
 unfold inD
 cases (arOk a&&okM m) with
 | false=>left; rfl
 | true =>
  have:(inL m k a.slots).length≤k.toNat:=by unfold inL; rw [List.length_take]; exact Nat.min_le_left _ _
  show ((inL m k a.slots).length:Int)=0∨((inL m k a.slots).length:Int)≤k
  omega
theorem inner_in {a:Arena} (ho:arOk a=true) {k:Nat} (hk:k<4) (c:Int):∀ n i,i + n=(a.slots.filter (askE ((2 ^ k:Nat):Int))).length→LoopR (law10_DigestIn_b64 (c,(k:Int)) (a.slots.filter (askE ((2 ^ k:Nat):Int)))) (i:Int) (.inl ((a.slots.filter (askE ((2 ^ k:Nat):Int))).length:Int))
 | 0,i,hi=>by
  obtain rfl:i=(a.slots.filter (askE ((2 ^ k:Nat):Int))).length:=by omega
  exact .done ⟨fun c=>by simp at c,fun _=>rfl⟩
 | n + 1,i,hi=>by
  have hlt:i<(a.slots.filter (askE ((2 ^ k:Nat):Int))).length:=by omega
  have hm:=getD_memE hlt
  obtain ⟨hm1,hm2⟩:=List.mem_filter.1 hm
  have hok:=(ok_slots8 ho).2 _ hm1
  have h8:=(ok_slots8 ho).1
  have hle:=List.length_filter_le (askE ((2 ^ k:Nat):Int)) a.slots
  have hkey:=(okE_val hok).2.1
  have hb:bktE ((a.slots.filter (askE ((2 ^ k:Nat):Int))).getD i default)=(k:Int):=by
   rw [askK hk] at hm2; simpa using hm2
  refine .step (s':=((i + 1:Nat):Int)) ⟨fun _=>⟨⟨by omega,by omega⟩,⟨by omega,by omega⟩,?_⟩,fun c=>absurd (show ((i:Nat):Int)<((a.slots.filter (askE ((2 ^ k:Nat):Int))).length:Int) by omega) (of_decide_eq_false c)⟩ (inner_in ho hk c n (i + 1) (by omega))
  rw [nth_nat]
  refine ⟨by omega,_,rfl,fun c=>?_,fun _=>by rw [wrapS hlt (by omega)]⟩
  exfalso
  have c':(bktE ((a.slots.filter (askE ((2 ^ k:Nat):Int))).getD i default) != (k:Int))=true:=c
  rw [hb] at c'; simp at c'
theorem outer_in {a:Arena} (ho:arOk a=true) (sa:sma a):∀ n k,k + n=4→LoopR (law10_DigestIn_b48 a) ((totK a.slots k:Int),(k:Int)) (.inl ((totK a.slots 4:Int),(4:Int)))
 | 0,k,hk=>by
  obtain rfl:k=4:=by omega
  exact .done ⟨fun c=>by simp at c,fun _=>rfl⟩
 | n + 1,k,hk=>by
  have hk4:k<4:=by omega
  have h8:=(ok_slots8 ho).1
  have h1:=tot_le a.slots k
  have h2:=cnt_le k a.slots
  have h3:k * a.slots.length≤3 * 8:=Nat.mul_le_mul (by omega) h8
  obtain ⟨b1,b2⟩:=bitD_ev k hk4
  refine .step (s':=((totK a.slots (k + 1):Int),((k + 1:Nat):Int))) ⟨fun _=>⟨b1,sa,_,rfl,?_⟩,fun c=>by simp at c; omega⟩ (outer_in ho sa n (k + 1) (by omega))
  have b2':IntKind.i64.wrap ((1:Int) * 2 ^ min ((IntKind.u64.wrap ((k:Nat):Int))).toNat IntKind.i64.bits)=((2 ^ k:Nat):Int):=b2.symm
  show ∃ x64,LoopR (law10_DigestIn_b64 ((totK a.slots k:Int),(k:Int)) (inD a (IntKind.i64.wrap ((1:Int) * 2 ^ min ((IntKind.u64.wrap ((k:Nat):Int))).toNat IntKind.i64.bits)) 100)) 0 x64∧_
  rw [b2',in_k ho hk4]
  refine ⟨_,inner_in ho hk4 _ _ 0 (Nat.zero_add _),fun s e=>?_,fun y e=>by cases e⟩
  show Sum.inl _=Sum.inl (IntKind.i64.wrap ((totK a.slots k:Int) + ((cntK k a.slots:Nat):Int)),IntKind.i64.wrap ((k:Int) + 1))
  rw [wrap64 (by omega) (by omega),wrapS (n:=4) hk4 (by decide)]
  congr 2
theorem digestIn_row (a:Arena) (m k:Int) (ga:GArena a) (w1:inK .i64 m) (w2:inK .i64 k):law10_DigestIn_raw a m k true:=by
 refine ⟨fun h=>(by cases h),fun _=>⟨fun c=>?_,fun _=>rfl,fun f1=>?_⟩⟩
 ·have:fewA a=true:=by revert c; cases fewA a <;> simp
  exact fewA_sma this
 have f2:fewA a=true∧arOk a=true:=by rw [checkA_ne] at f1; revert f1; cases fewA a <;> cases arOk a <;> simp
 obtain ⟨hf,ho⟩:=f2
 have sa:=fewA_sma hf
 have e0:totK a.slots 0=0:=rfl
 have hout:=outer_in ho sa 4 0 rfl
 refine ⟨sa,_,rfl,in_sml sa _ _,_,hout,fun s e=>?_,fun y e=>by cases e⟩
 cases e
 refine ⟨sa,_,rfl,fun _=>⟨fun _=>⟨fun _=>⟨sa,_,rfl,by rw [in_none ho]; rfl⟩,fun c=>⟨fun _=>⟨sa,_,rfl,by rw [in_none ho]; rfl⟩,fun d=>?_⟩⟩,fun c=>?_⟩,fun c=>?_⟩
 ·exfalso
  have:=in_len a m k
  simp only [beq_eq_false_iff_ne,decide_eq_false_iff_not] at c d
  omega
 ·rw [tot_all] at c; simp at c
 ·rw [in_all ho,allE_self] at c; cases c
end Go.Proofs.YthbfhgenkhkpfaaGreat
