/- DigestSteps: what an entry changes of sums. -/
import Derived.Test.YthbfhgenkhkpfaaGreatGjSteps
import Derived.Test.YthbfhgenkhkpfaaGreatSu4
namespace Go.Proofs.YthbfhgenkhkpfaaGreat
open Go Go.RowKit
set_option linter.unusedVariables false
set_option linter.unusedSimpArgs false
theorem digestSteps_row (a:Arena) (x:Ent) (ga:GArena a) (gx:GEnt x):law10_DigestSteps_raw a x true:=by
 refine ⟨fun h=>(by cases h),fun _=>⟨fun _=>rfl,fun f1=>?_⟩⟩
 have f1:=of_not f1
 have sa:=fewA_sma (andL f1)
 have sx:=fewE_sm (andR f1)
 have wa:wfa a:=wfl_of ga.2.1
 have wx:WfV x.val:=gx.2.1
 have sb:=sma_join sa sx
 refine ⟨sa,sx,wx,_,rfl,fun _=>rfl,fun ce=>?_⟩
 have ce0:(joinA a x).2.2=0:=by simpa using ce
 obtain ⟨ho,hx,_⟩:=join_there wa wx ce0
 have hob:=join_arOk x ho
 have hl8:=(ok_slots8 ho).1
 have hk8:=(okE_val hx).2.1
 have hbk:bktE x=bucketD x.val.kind x.key:=rfl
 have hb4:=bkt4 x
 have hb:=bucketD_lt x.val.kind x.key
 have hsa:=sumsD_ok ho
 have hsb:=sumsD_ok hob
 -- where it lies
 have hto:∃ t:Nat,t<(joinA a x).1.slots.length∧findA (joinA a x).1 x.val.kind x.key=(t:Int)∧((findA a x.val.kind x.key=-1∧∀ k,sumB k (joinA a x).1.slots=sumB k a.slots ^^^ cc k ((joinA a x).1.slots.getD t default)) ∨
   (∃ i:Nat,i<a.slots.length∧findA a x.val.kind x.key=(i:Int)∧bktE (a.slots.getD i default)=bktE x∧∀ k,sumB k (joinA a x).1.slots=sumB k a.slots ^^^ (cc k (a.slots.getD i default) ^^^ cc k ((joinA a x).1.slots.getD t default))))∧bktE ((joinA a x).1.slots.getD t default)=bktE x:=by
  rcases join_cases a x with ⟨_,e⟩ | ⟨_,_,⟨_,_,_,e⟩ | ⟨h1,h2,h3,e⟩ | ⟨i,h1,h2,h3,e⟩⟩
  ·rw [e] at ce0; cases ce0
  ·rw [e] at ce0; cases ce0
  ·have hs:(joinA a x).1.slots=a.slots++[x]:=by rw [e]
   have hg:(joinA a x).1.slots.getD a.slots.length default=x:=by rw [hs]; simp
   have hlt:a.slots.length<(joinA a x).1.slots.length:=by rw [hs]; simp
   refine ⟨a.slots.length,hlt,find_at hob hlt (by rw [hg]; exact nameE_self x),.inl ⟨h2,fun k=>?_⟩,by rw [hg]⟩
   rw [hg,hs]; exact sumB_snoc k _ _
  ·have hs:(joinA a x).1.slots=a.slots.set i (joinE (a.slots.getD i default) x).1:=by rw [e]
   have hg:(joinA a x).1.slots.getD i default=(joinE (a.slots.getD i default) x).1:=by rw [hs]; exact getD_set_at h1
   have hlt:i<(joinA a x).1.slots.length:=by rw [hs,List.length_set]; exact h1
   have hoi:=(ok_slots8 ho).2 _ (getD_memE h1)
   have hn:=joinE_name hoi hx h3
   have hnx:=nameE_trans hn h3
   refine ⟨i,hlt,find_at hob hlt (by rw [hg]; exact hnx),.inr ⟨i,h1,h2,bkt_name h3,fun k=>?_⟩,by rw [hg]; exact bkt_name hnx⟩
   rw [hg,hs]; exact sumB_set k _ _ i h1
 obtain ⟨t,ht,htf,hcase,htb⟩:=hto
 have hat:findA a x.val.kind x.key<(a.slots.length:Int):=by
  rcases hcase with ⟨h,_⟩ | ⟨i,hi,h,_⟩ <;> rw [h] <;> omega
 have hokt:=(ok_slots8 hob).2 _ (getD_memE ht)
 have hcond:(((((decide ((findA (joinA a x).1 x.val.kind x.key)<0))||(decide (((joinA a x).1.slots.length:Int)≤(findA (joinA a x).1 x.val.kind x.key))))||(decide ((a.slots.length:Int)≤(findA a x.val.kind x.key))))||(decide ((bucketD x.val.kind x.key)<0)))||(decide (3<(bucketD x.val.kind x.key))))=false:=by
  rw [htf]; simp; omega
 refine ⟨sa,sb,by omega,fun c=>(by rw [hcond] at c; cases c),fun _=>⟨sa,sums4 a.slots,hsa.symm,?_⟩⟩
 rw [htf,nth_nat]
 have hr:0≤bucketD x.val.kind x.key∧bucketD x.val.kind x.key<((4:Nat):Int):=⟨hb.1,by omega⟩
 have hlen:=putE_len hokt
 have hcn:∀ e:Ent,sumC (putE e).1=(crcE e:Int):=fun e=>sumC_N _
 have hcl:∀ e:Ent,crcE e<4294967296:=fun e=>crcN_lt _
 have hB4:bucketD x.val.kind x.key=0∨bucketD x.val.kind x.key=1∨bucketD x.val.kind x.key=2∨bucketD x.val.kind x.key=3:=hb4
 have hv:nth (sums4 a.slots) (bucketD x.val.kind x.key)=(sumB (((bucketD x.val.kind x.key).toNat:Nat):Int) a.slots:Int):=by
  rcases hB4 with h | h | h | h <;> rw [h] <;> rfl
 have F:=fun (j:Nat)=>xset (fun j=>sumB (j:Int) a.slots) (fun j=>sumB_lt _ _) (hcn ((joinA a x).1.slots.getD t default)) (hcl _) hB4 (x0:=nth (sums4 a.slots) 0) (x1:=nth (sums4 a.slots) 1) (x2:=nth (sums4 a.slots) 2) (x3:=nth (sums4 a.slots) 3) rfl rfl rfl rfl hv j
 have hcct:∀ k:Int,cc k ((joinA a x).1.slots.getD t default)=if k=bucketD x.val.kind x.key then crcE ((joinA a x).1.slots.getD t default) else 0:=fun k=>by
  unfold cc
  rw [htb,hbk]
  by_cases h:k=bucketD x.val.kind x.key
  ·rw [if_pos h,h]; simp
  ·rw [if_neg h,show (bucketD x.val.kind x.key==k)=false by simpa using fun e=>h e.symm]; rfl
 refine ⟨⟨by omega,by omega⟩,sma_slots sb _ (getD_memE ht),_,rfl,hr,by omega,hr,fun c=>?_,fun c=>?_⟩
 ·rcases hcase with ⟨h,_⟩ | ⟨i,hi,h,hbi,hsum⟩
  ·exfalso; rw [h] at c; simp at c
  rw [h,nth_nat]
  have hoki:=(ok_slots8 ho).2 _ (getD_memE hi)
  have hleni:=putE_len hoki
  refine ⟨⟨by omega,by omega⟩,sma_slots sa _ (getD_memE hi),_,rfl,hr,by omega,hr,sb,sums4 (joinA a x).1.slots,hsb.symm,rfl,?_⟩
  have hcci:∀ k:Int,cc k (a.slots.getD i default)=if k=bucketD x.val.kind x.key then crcE (a.slots.getD i default) else 0:=fun k=>by
   unfold cc
   rw [hbi,hbk]
   by_cases h:k=bucketD x.val.kind x.key
   ·rw [if_pos h,h]; simp
   ·rw [if_neg h,show (bucketD x.val.kind x.key==k)=false by simpa using fun e=>h e.symm]; rfl
  have hv2:nth (([nth (sums4 a.slots) 0,nth (sums4 a.slots) 1,nth (sums4 a.slots) 2,nth (sums4 a.slots) 3]:List Int).set (bucketD x.val.kind x.key).toNat (IntKind.i64.wrap ((BitVec.ofInt IntKind.i64.bits (nth (sums4 a.slots) (bucketD x.val.kind x.key)) ^^^ BitVec.ofInt IntKind.i64.bits (sumC (putE ((joinA a x).1.slots.getD t default)).1)).toNat:Int))) (bucketD x.val.kind x.key)
    = ((if (((bucketD x.val.kind x.key).toNat:Nat):Int)=bucketD x.val.kind x.key then sumB (((bucketD x.val.kind x.key).toNat:Nat):Int) a.slots ^^^ crcE ((joinA a x).1.slots.getD t default) else sumB (((bucketD x.val.kind x.key).toNat:Nat):Int) a.slots:Nat):Int):=by
   have:=F (bucketD x.val.kind x.key).toNat (by omega)
   rw [Int.toNat_of_nonneg hb.1] at this
   rw [Int.toNat_of_nonneg hb.1]
   exact this
  have G:=fun (j:Nat)=>xset (fun j=>if ((j:Nat):Int)=bucketD x.val.kind x.key then sumB (j:Int) a.slots ^^^ crcE ((joinA a x).1.slots.getD t default) else sumB (j:Int) a.slots) (fun j=>by
    show (if ((j:Nat):Int)=bucketD x.val.kind x.key then sumB (j:Int) a.slots ^^^ crcE ((joinA a x).1.slots.getD t default) else sumB (j:Int) a.slots)<4294967296
    split
    ·exact Nat.xor_lt_two_pow (n:=32) (sumB_lt _ _) (hcl _)
    ·exact sumB_lt _ _) (hcn (a.slots.getD i default)) (hcl _) hB4 (F 0 (by decide)) (F 1 (by decide)) (F 2 (by decide)) (F 3 (by decide)) hv2 j
  have E:∀ j:Nat,j<4→((sumB (j:Int) (joinA a x).1.slots:Nat):Int)=((if ((j:Nat):Int)=bucketD x.val.kind x.key then (if ((j:Nat):Int)=bucketD x.val.kind x.key then sumB (j:Int) a.slots ^^^ crcE ((joinA a x).1.slots.getD t default) else sumB (j:Int) a.slots) ^^^ crcE (a.slots.getD i default) else (if ((j:Nat):Int)=bucketD x.val.kind x.key then sumB (j:Int) a.slots ^^^ crcE ((joinA a x).1.slots.getD t default) else sumB (j:Int) a.slots):Nat):Int):=fun j hj=>by
   rw [hsum,hcci,hcct]
   by_cases h:((j:Nat):Int)=bucketD x.val.kind x.key
   ·simp only [if_pos h]
    rw [Nat.xor_comm (crcE (a.slots.getD i default)),← Nat.xor_assoc]
   ·simp only [if_neg h]
    simp
  have r0:=(E 0 (by decide)).trans (G 0 (by decide)).symm
  have r1:=(E 1 (by decide)).trans (G 1 (by decide)).symm
  have r2:=(E 2 (by decide)).trans (G 2 (by decide)).symm
  have r3:=(E 3 (by decide)).trans (G 3 (by decide)).symm
  symm
  simp only [Bool.and_eq_true,beq_iff_eq,and_true]
  exact ⟨r0,r1,r2,r3⟩
 ·rcases hcase with ⟨h,hsum⟩ | ⟨i,hi,h,_⟩
  ·refine ⟨sb,sums4 (joinA a x).1.slots,hsb.symm,rfl,?_⟩
   have E:∀ j:Nat,j<4→((sumB (j:Int) (joinA a x).1.slots:Nat):Int)=((if ((j:Nat):Int)=bucketD x.val.kind x.key then sumB (j:Int) a.slots ^^^ crcE ((joinA a x).1.slots.getD t default) else sumB (j:Int) a.slots:Nat):Int):=fun j hj=>by
    rw [hsum,hcct]
    by_cases h:((j:Nat):Int)=bucketD x.val.kind x.key
    ·simp only [if_pos h]
    ·simp only [if_neg h,Nat.xor_zero]
   have r0:=(E 0 (by decide)).trans (F 0 (by decide)).symm
   have r1:=(E 1 (by decide)).trans (F 1 (by decide)).symm
   have r2:=(E 2 (by decide)).trans (F 2 (by decide)).symm
   have r3:=(E 3 (by decide)).trans (F 3 (by decide)).symm
   symm
   simp only [Bool.and_eq_true,beq_iff_eq,and_true]
   exact ⟨r0,r1,r2,r3⟩
  ·exfalso; rw [h] at c; simp at c
end Go.Proofs.YthbfhgenkhkpfaaGreat
