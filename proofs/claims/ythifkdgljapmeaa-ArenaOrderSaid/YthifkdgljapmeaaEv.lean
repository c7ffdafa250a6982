/- What is read of an arena: the evaluations. -/
import Derived.Test.YthifkdgljapmeaaEe
namespace Go.Proofs.Ythifkdgljapmeaa
open Go Go.RowKit
set_option linter.unusedVariables false
set_option linter.unusedSimpArgs false

def isN (k:Int) (key:Str) (e:Ent):Bool:=e.val.kind==k&&e.key==key
def findL (l:List Ent) (k:Int) (key:Str):Int:=bif decide (l.findIdx (isN k key)<l.length) then ((l.findIdx (isN k key):Nat):Int) else -1
def findA (a:Arena) (k:Int) (key:Str):Int:=bif arOk a then findL a.slots k key else -1
def allA (a:Arena):List Ent:=bif arOk a then a.idx.map (nth a.slots) else []
def chunkA (a:Arena) (at_ n:Int):List Ent:=bif arOk a&&decide (0≤at_) then (a.slots.drop at_.toNat).take n.toNat else []
def sameA (a b:Arena):Bool:=(a.cap==b.cap&&allE a.slots b.slots)&&eqInts a.idx b.idx

theorem findL_none {l:List Ent} {k:Int} {key:Str} (h:∀ i,i<l.length→isN k key (l.getD i default)=false):findL l k key=-1:=by
 have:l.findIdx (isN k key)=l.length:=by
  rw [List.findIdx_eq_length]
  intro e he
  obtain ⟨i,hi,rfl⟩:=List.getElem_of_mem he
  have:=h i hi; simpa [hi] using this
 unfold findL; rw [this]; simp
theorem findL_some {l:List Ent} {k:Int} {key:Str} {i:Nat} (hi:i<l.length) (h:isN k key (l.getD i default)=true) (hb:∀ j,j<i→isN k key (l.getD j default)=false):findL l k key=(i:Int):=by
 have:l.findIdx (isN k key)=i:=by
  rw [List.findIdx_eq hi]
  refine ⟨by simpa [hi] using h,fun j hj=>?_⟩
  have:=hb j hj; simpa [show j<l.length by omega] using this
 unfold findL; rw [this]; simp [hi]
/-! ### loops over the slots -/
theorem itr_scan {S R:Type} {body:S→Int × Ent→S ⊕ R→Prop} (s:S) (l:List Ent) (q:Nat→Bool) (r:Nat→R) (hn:∀ i,i<l.length→q i=false→body s ((i:Int),l.getD i default) (.inl s))
  (hy:∀ i,i<l.length→q i=true→body s ((i:Int),l.getD i default) (.inr (r i))) :
  ∃ x,ItR body s (eachL l) x∧((x=.inl s∧∀ i,i<l.length→q i=false)∨∃ i,i<l.length∧q i=true∧(∀ j,j<i→q j=false)∧x=.inr (r i)):=by
 have key:∀ d i:Nat,i + d=l.length→(∀ j,j<i→q j=false)→∃ x,ItR body s ((eachL l).drop i) x∧((x=.inl s∧∀ i,i<l.length→q i=false)∨∃ i,i<l.length∧q i=true∧(∀ j,j<i→q j=false)∧x=.inr (r i)):=by
  intro d
  induction d with
  | zero =>
   intro i hi hq
   obtain rfl:i=l.length:=by omega
   refine ⟨.inl s,?_,.inl ⟨rfl,hq⟩⟩
   rw [List.drop_eq_nil_of_le (by rw [eachL_length]; exact Nat.le_refl _)]
   exact .nil
  | succ d ih =>
   intro i hi hq
   rw [eachL_drop (by omega)]
   cases hqi:q i with
   | true=>exact ⟨_,.stop (hy i (by omega) hqi),.inr ⟨i,by omega,hqi,hq,rfl⟩⟩
   | false =>
    obtain ⟨x,hx,hc⟩:=ih (i + 1) (by omega) (fun j hj=>by
     by_cases e:j=i
     ·subst e; exact hqi
     ·exact hq j (by omega))
    exact ⟨x,.step (hn i (by omega) hqi) hx,hc⟩
 obtain ⟨x,hx,hc⟩:=key l.length 0 (by omega) (fun j hj=>by omega)
 exact ⟨x,by simpa using hx,hc⟩
theorem itr_fold {S R:Type} {body:S→Int × Ent→S ⊕ R→Prop} (l:List Ent) (st:Nat→S) (h:∀ i,i<l.length→body (st i) ((i:Int),l.getD i default) (.inl (st (i + 1)))):ItR body (st 0) (eachL l) (.inl (st l.length)):=by
 have key:∀ d i:Nat,i + d=l.length→ItR body (st i) ((eachL l).drop i) (.inl (st l.length)):=by
  intro d
  induction d with
  | zero =>
   intro i hi
   obtain rfl:i=l.length:=by omega
   rw [List.drop_eq_nil_of_le (by rw [eachL_length]; exact Nat.le_refl _)]
   exact .nil
  | succ d ih=>intro i hi; rw [eachL_drop (by omega)]; exact .step (h i (by omega)) (ih (i + 1) (by omega))
 simpa using key l.length 0 (by omega)
theorem eachA_ok {a:Arena} (h:arOk a=true):eachA a=eachL a.slots:=by unfold eachA; rw [h]; rfl
theorem eachA_no {a:Arena} (h:arOk a=false):eachA a=[]:=by unfold eachA; rw [h]; rfl
theorem arFind_ev (a:Arena) (k:Int) (key:Str) (h:sma a):arena_Find_raw a k key (findA a k key):=by
 refine ⟨h,?_⟩
 cases ho:arOk a with
 | false =>
  refine ⟨.inl 0,by rw [eachA_no ho]; exact .nil,fun _ _=>?_,fun _ e=>by cases e⟩
  unfold findA; rw [ho]; rfl
 | true =>
  have e0:findA a k key=findL a.slots k key:=by unfold findA; rw [ho]; rfl
  rw [e0,eachA_ok ho]
  obtain ⟨x,hx,hc⟩:=itr_scan (body:=arena_Find_b35 k key) (0:Int) a.slots (fun i=>isN k key (a.slots.getD i default)) (fun i=>(i:Int))
   (fun i hi hq=>⟨fun c=>(by unfold isN at hq; simp only [hq] at c; cases c),fun _=>rfl⟩)
   (fun i hi hq=>⟨fun _=>rfl,fun c=>(by unfold isN at hq; simp only [hq] at c; cases c)⟩)
  refine ⟨x,hx,fun s e=>?_,fun y e=>?_⟩
  ·rcases hc with ⟨_,h3⟩ | ⟨i,_,_,_,h6⟩
   ·exact findL_none h3
   ·rw [e] at h6; cases h6
  ·rcases hc with ⟨h3,_⟩ | ⟨i,hi,h4,h5,h6⟩
   ·rw [e] at h3; cases h3
   ·rw [e] at h6; cases h6; exact findL_some hi h4 h5
theorem ok_small {a:Arena} (ho:arOk a=true):a.slots.length≤8∧a.idx.length≤8:=by
 obtain ⟨⟨h1,h2,h3⟩,_,_,h4⟩:=arOk_iff.1 ho
 have h5:a.slots.length≤8:=by omega
 refine ⟨h5,?_⟩
 rw [h4,(idxR_perm _).length_eq,idR_length]; exact h5
theorem all_loop {a:Arena} (h:sma a) (ho:arOk a=true) {body:List Ent × Int→(List Ent × Int) ⊕ (List Ent × Int)→Prop} (hb:body=ref08_All_b15 a):∃ x,LoopR body (([]:List Ent),(0:Int)) x∧x.1=a.idx.map (nth a.slots):=by
 subst hb
 have hix:=(arOk_iff.1 ho).2.2.2
 have hm:∀ i,i<a.idx.length→0≤a.idx.getD i default∧a.idx.getD i default<(a.slots.length:Int):=fun i hi=>by
  have:a.idx.getD i default∈idxR a.slots:=by rw [← hix]; exact getD_mem' hi
  exact idR_mem.1 ((idxR_perm _).mem_iff.1 this)
 have hl:a.idx.length≤1000:=by have:=(ok_small ho).2; omega
 refine ⟨_,loop_fold (body:=ref08_All_b15 a) a.idx.length (fun i=>((a.idx.take i).map (nth a.slots),(i:Int))) (fun i hi=>?_) ?_,by simp⟩
 ·refine ⟨fun _=>⟨⟨by omega,by simpa using hi⟩,by simpa only [nth_nat] using hm i hi,?_,?_⟩,fun h=>by simp at h; omega⟩
  ·simp only [List.length_map,List.length_take]; omega
  ·simp only [wrapS hi (show a.idx.length≤9223372036854775807 by omega),nth_nat a.idx]
   have et:a.idx.take (i + 1)=a.idx.take i++[a.idx.getD i default]:=by rw [List.take_add_one]; simp [hi]
   rw [et,List.map_append]; rfl
 ·exact ⟨fun h=>by simp at h,fun _=>rfl⟩
theorem arAll_ev (a:Arena) (h:sma a):arena_All_raw a (allA a):=by
 refine ⟨h,fun c=>?_,fun c=>?_⟩ <;> rw [checkA_ne] at c
 ·have:arOk a=false:=by simpa using c
  unfold allA; rw [this]; rfl
 ·have ho:arOk a=true:=by simpa using c
  obtain ⟨x,hx,e⟩:=all_loop (body:=arena_All_b15 a) h ho rfl
  exact ⟨x,hx,by unfold allA; rw [ho,e]; rfl⟩
theorem arChunk_ev (a:Arena) (t n:Int) (h:sma a):arena_Chunk_raw a t n (chunkA a t n):=by
 have h2:=h.2.1
 refine ⟨fun c=>?_,fun c=>⟨h,?_⟩⟩
 ·have:decide (0≤t)=false:=by simp at c ⊢; omega
  unfold chunkA; rw [this]; simp
 ·simp only [decide_eq_false_iff_not] at c
  obtain ⟨m,rfl⟩:=Int.eq_ofNat_of_zero_le (show 0≤t by omega)
  cases ho:arOk a with
  | false =>
   refine ⟨.inl [],by rw [eachA_no ho]; exact .nil,fun s e=>?_,fun _ e=>by cases e⟩
   cases e; unfold chunkA; rw [ho]; rfl
  | true =>
   have h2:=(ok_small ho).1
   have e0:chunkA a (m:Int) n=(a.slots.drop m).take n.toNat:=by unfold chunkA; rw [ho]; simp
   rw [e0,eachA_ok ho]
   have hf:=itr_fold (body:=arena_Chunk_b36 (m:Int) n) a.slots (fun i=>((a.slots.take i).drop m).take n.toNat) (fun i hi=>?_)
   ·refine ⟨_,by simpa using hf,fun s e=>?_,fun _ e=>by cases e⟩
    cases e; rfl
   ·have hlen:(((a.slots.take i).drop m).take n.toNat).length=min n.toNat (i - m):=by simp; omega
    by_cases hmi:m≤i
    ·have e1:IntKind.i64.wrap ((i:Int) - (m:Int))=((i - m:Nat):Int):=by rw [wrap64 (by omega) (by omega)]; omega
     have e3:(a.slots.take (i + 1)).drop m=(a.slots.take i).drop m++[a.slots.getD i default]:=by
      rw [List.take_add_one,List.drop_append_of_le_length (by simp; omega)]; simp [hi]
     have hle:((a.slots.take i).drop m).length=i - m:=by simp; omega
     by_cases hn:((i - m:Nat):Int)<n
     ·refine ⟨fun _=>⟨by rw [hlen]; omega,?_⟩,fun c=>?_⟩
      ·congr 1
       show ((a.slots.take (i + 1)).drop m).take n.toNat=((a.slots.take i).drop m).take n.toNat++[a.slots.getD i default]
       rw [e3,List.take_of_length_le (l:=(a.slots.take i).drop m++[a.slots.getD i default]) (by rw [List.length_append,hle,List.length_singleton]; omega),List.take_of_length_le (l:=(a.slots.take i).drop m) (by rw [hle]; omega)]
      ·exfalso
       simp only [e1] at c
       simp at c; omega
     ·refine ⟨fun c=>?_,fun _=>?_⟩
      ·exfalso
       simp only [e1,Bool.and_eq_true,decide_eq_true_eq] at c
       exact hn c.2
      ·congr 1
       show ((a.slots.take (i + 1)).drop m).take n.toNat=((a.slots.take i).drop m).take n.toNat
       rw [e3,List.take_append_of_le_length (by omega)]
    ·have e3:((a.slots.take (i + 1)).drop m)=[]:=List.drop_eq_nil_of_le (by simp; omega)
     have e4:((a.slots.take i).drop m)=[]:=List.drop_eq_nil_of_le (by simp; omega)
     refine ⟨fun c=>?_,fun _=>by simp only [e3,e4]⟩
     exfalso
     simp only [Bool.and_eq_true,decide_eq_true_eq] at c
     omega
theorem arSame_ev (a b:Arena) (h:sma a):arena_Same_raw a b (sameA a b):=⟨fun _=>h.1,fun _=>by have:=h.2.2; omega,rfl⟩
end Go.Proofs.Ythifkdgljapmeaa
