/- DeltaScans: all that is not dead is read by its key. -/
import Derived.Test.YthhjcijhanacnaaGiScans
import Derived.Test.YthhjcijhanacnaaLk
namespace Go.Proofs.Ythhjcijhanacnaa
open Go Go.RowKit
set_option linter.unusedVariables false
set_option linter.unusedSimpArgs false

/-- A slot is read by its key. -/
theorem old_slot {a : Arena} (ho : arOk a = true) {i : Nat} (hi : i < a.slots.length) : oldD a (a.slots.getD i default).val.kind (a.slots.getD i default).key = ((a.slots.getD i default).val, true) :=
  old_of (find_at ho hi (nameE_self _))
def readB (a:Arena) (e:Ent):Bool:=((((e.val.kind==1)&&(textU a e.key).2)||((e.val.kind==2)&&(sumU a e.key).2))||((e.val.kind==3)&&(flagsU a e.key).2))
theorem read_slot {a:Arena} (ho:arOk a=true) {i:Nat} (hi:i<a.slots.length):readB a (a.slots.getD i default)=!(a.slots.getD i default).val.dead:=by
 have hs:=old_slot ho hi
 have hok:=okE_V ((arOk_iff.1 ho).2.1 _ (getD_mem' hi))
 unfold readB
 rcases kinds_of hok with hk | hk | hk
 ·rw [hk] at hs ⊢
  unfold textU
  rw [hs]; simp
 ·rw [hk] at hs ⊢
  obtain ⟨_,_,_,_,r3,_⟩:=cnt_ok hok hk
  unfold sumU
  rw [hs,r3]; simp
 ·rw [hk] at hs ⊢
  obtain ⟨r,_⟩:=okF_eq (ok3 hok hk)
  have r3:=(noReg_eq r).2.2.1
  unfold flagsU
  rw [hs,r3]; simp
theorem read_no {a:Arena} (ho:arOk a=false) (e:Ent):readB a e=false:=by
 have h1:∀ k key,oldD a k key=((leastV k).1,false):=fun k key=>old_no (findA_no ho k key)
 unfold readB textU sumU flagsU
 rw [h1,h1,h1]; simp
theorem live_perm {a:Arena} (ho:arOk a=true):(scanU a).length=(liveL a.slots).length:=by
 unfold scanU liveL
 refine List.Perm.length_eq (List.Perm.filter _ ?_)
 rw [allA_eq ho]
 have h1:=(idxR_perm a.slots).map (nth a.slots)
 refine h1.trans (List.Perm.of_eq ?_)
 apply List.ext_getElem?
 intro i
 by_cases hi:i<a.slots.length
 ·simp [idR,hi,nth]
 ·rw [List.getElem?_eq_none (by simp [idR]; omega),List.getElem?_eq_none (by omega)]
/-- How many of the first slots are read. -/
def cntB (a : Arena) (i : Nat) : Nat := ((a.slots.take i).filter (readB a)).length
theorem cntB_succ {a:Arena} {i:Nat} (hi:i<a.slots.length):cntB a (i + 1)=cntB a i + (bif readB a (a.slots.getD i default) then 1 else 0):=by
 have e:a.slots.take (i + 1)=a.slots.take i++[a.slots.getD i default]:=by rw [List.take_add_one]; simp [hi]
 unfold cntB
 rw [e,List.filter_append,List.length_append]
 congr 1
 cases h:readB a (a.slots.getD i default)
 ·rw [List.filter_cons_of_neg (by rw [h]; simp)]; rfl
 ·rw [List.filter_cons_of_pos h]; rfl
theorem cntB_le (a:Arena) (i:Nat):cntB a i≤i:=by
 unfold cntB
 exact Nat.le_trans (List.length_filter_le _ _) (by simp; omega)
theorem cntB_all {a:Arena}:cntB a a.slots.length=(scanU a).length:=by
 unfold cntB
 rw [List.take_length]
 cases ho:arOk a with
 | false =>
  have h1:a.slots.filter (readB a)=[]:=List.filter_eq_nil_iff.2 fun e _=>by rw [read_no ho e]; simp
  rw [h1]
  unfold scanU liveL allA
  rw [ho]; rfl
 | true =>
  rw [live_perm ho]
  unfold liveL
  congr 1
  refine List.filter_congr fun e he=>?_
  obtain ⟨i,hi,rfl⟩:=mem_getD he
  exact read_slot ho hi
theorem scan_mem {a:Arena} {e:Ent} (h:e∈scanU a):e.val.dead=false∧0≤findA a e.val.kind e.key:=by
 unfold scanU liveL at h
 obtain ⟨h1,h2⟩:=List.mem_filter.1 h
 refine ⟨by simpa using h2,?_⟩
 cases ho:arOk a with
 | false=>unfold allA at h1; rw [ho] at h1; cases h1
 | true =>
  obtain ⟨i,hi,rfl⟩:=mem_getD ((allA_mem ho).1 h1)
  rw [find_at ho hi (nameE_self _)]; omega
theorem deltaScans_ev (a:Arena) (ga:GArena a):law09_DeltaScans_raw a true:=by
 refine ⟨fun h=>(by cases h),fun _=>⟨fun _=>rfl,fun f1=>?_⟩⟩
 have fa:fewA a=true:=by revert f1; cases fewA a <;> simp
 have sa:=fewA_sma fa
 have wa:wfa a:=wfl_of ga.2.1
 have hl:=sa.2.1
 have l1:=loop_fold (body:=law09_DeltaScans_b27 a) a.slots.length (fun i=>((cntB a i:Int),(i:Int))) (fun i hi=>by
  have e3:IntKind.i64.wrap ((i:Int) + (1:Int))=((i + 1:Nat):Int):=wrapS hi hl
  have hr:=cntB_succ hi
  have hc:=cntB_le a i
  have hb:(0:Int)≤(i:Int)∧(i:Int)<(a.slots.length:Int):=⟨by omega,by omega⟩
  refine ⟨fun _=>⟨hb,sa,_,rfl,hb,sa,_,rfl,hb,sa,_,rfl,hb,fun hq=>?_,fun hq=>?_⟩,fun c=>by simp at c; omega⟩
  ·have hq':readB a (a.slots.getD i default)=true:=by simpa only [nth_nat,readB] using hq
   rw [hq',cond_true] at hr
   rw [hr]
   show Sum.inl _=Sum.inl (IntKind.i64.wrap ((cntB a i:Int) + 1),IntKind.i64.wrap ((i:Int) + 1))
   rw [e3,wrap64 (n:=(cntB a i:Int) + 1) (by omega) (by omega)]; rfl
  ·have hq':readB a (a.slots.getD i default)=false:=by simpa only [nth_nat,readB] using hq
   rw [hq',cond_false] at hr
   rw [hr]
   show Sum.inl _=Sum.inl ((cntB a i:Int),IntKind.i64.wrap ((i:Int) + 1))
   rw [e3]; rfl) ⟨fun c=>by simp at c,fun _=>rfl⟩
 have h0:cntB a 0=0:=rfl
 have hls:(scanU a).length≤1000000:=by
  unfold scanU liveL
  exact Nat.le_trans (List.length_filter_le _ _) allA_len
 obtain ⟨x,hx,hp⟩:=loop_run (body:=law09_DeltaScans_b248 a (scanU a)) (fun s=>(scanU a).length - s.toNat) (fun s=>∃ i:Nat,i≤(scanU a).length∧s=(i:Int)) (fun x=>∃ s,x=.inl s) (by
  rintro s ⟨i,hi,rfl⟩
  by_cases hlt:i<(scanU a).length
  ·have hm:nth (scanU a) (i:Int)∈scanU a:=by rw [nth_nat]; exact getD_mem' hlt
   obtain ⟨m1,m2⟩:=scan_mem hm
   have hb:(0:Int)≤(i:Int)∧(i:Int)<((scanU a).length:Int):=⟨by omega,by omega⟩
   refine .inl ⟨((i + 1:Nat):Int),⟨fun _=>⟨(fun c=>by rw [m1] at c; cases c),fun _=>⟨hb,hb,hb,sa,_,rfl,fun c=>?_,fun _=>by rw [wrapS hlt (by omega)]⟩⟩,fun c=>by simp at c; omega⟩,⟨i + 1,by omega,rfl⟩,by rw [Int.toNat_natCast,Int.toNat_natCast]; omega⟩
   have:=of_decide_eq_true c
   omega
  ·obtain rfl:i=(scanU a).length:=by omega
   exact .inr ⟨_,⟨fun c=>by simp at c,fun _=>rfl⟩,_,rfl⟩) 0 ⟨0,by omega,rfl⟩
 obtain ⟨s,rfl⟩:=hp
 refine ⟨sa,_,rfl,_,l1,_,hx,fun sx e=>?_,(fun y e=>by cases e)⟩
 show true=((cntB a a.slots.length:Int)==((scanU a).length:Int))
 rw [cntB_all]; simp
end Go.Proofs.Ythhjcijhanacnaa
