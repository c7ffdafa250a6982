/- ArenaSlots: slots stay at their places, all rise by names, chunks are all. -/
import Derived.Test.YthifkdgljapmeaaGd6
import Derived.Test.YthifkdgljapmeaaSe10
import Derived.Test.YthifkdgljapmeaaAm
namespace Go.Proofs.Ythifkdgljapmeaa
open Go Go.RowKit
set_option linter.unusedVariables false
set_option linter.unusedSimpArgs false

theorem inK_u8 {n:Int} (h:inK .u8 n):0≤n∧n<256:=by
 have h:(decide (IntKind.u8.min≤n)&&decide (n≤IntKind.u8.max))=true:=h
 simp only [Bool.and_eq_true,decide_eq_true_eq] at h
 have e1:IntKind.u8.min=0:=by decide
 have e2:IntKind.u8.max=255:=by decide
 rw [e1,e2] at h; omega
theorem size4 {n:Int} (h:inK .u8 n):∃ m:Nat,IntKind.i64.wrap ((Int.tmod (IntKind.i64.wrap n) (4:Int)) + (1:Int))=(m:Int)∧1≤m∧m≤4:=by
 have:=inK_u8 h
 rw [wrap64 (n:=n) (by omega) (by omega)]
 obtain ⟨k,rfl⟩:=Int.eq_ofNat_of_zero_le this.1
 have e:Int.tmod ((k:Nat):Int) 4=((k % 4:Nat):Int):=by simp [Int.tmod]
 rw [e,wrap64 (by omega) (by omega)]
 exact ⟨k % 4 + 1,by omega,by omega,by omega⟩
theorem arenaSlots_ev (a:Arena) (l:List Ent) (n:Int) (ga:GArena a) (gl:Gs_api_Entry l) (gn:inK .u8 n):law08_ArenaSlots_raw a l n true:=by
 refine ⟨fun h=>(by cases h),fun _=>⟨fun _=>by decide,fun c=>?_,fun f1=>rfl,fun f1=>?_⟩⟩
 ·have f2:fewA a=true:=by revert c; cases fewA a <;> simp
  exact fewA_sma f2
 have f2:fewA a=true∧entriesB l 10=true∧arOk a=true:=by rw [checkA_ne] at f1; revert f1; cases fewA a <;> cases entriesB l 10 <;> cases arOk a <;> simp
 obtain ⟨f3,f4,ho⟩:=f2
 have sa:=fewA_sma f3
 have sl:=entriesB_sml f4 (by decide)
 have wa:wfa a:=wfl_of ga.2.1
 have wl:wfl l:=wfl_of gl
 have sj:=sma_merge sa sl
 have hok:=run_arOk l ho
 have hcap:=run_cap l a
 have hlen:=run_len l a
 have hle:=(arOk_iff.1 hok).1
 refine ⟨sa,sl,wl,_,rfl,fun c=>?_,fun _=>?_⟩
 ·exfalso
  rw [merge_1] at c
  simp only [Bool.or_eq_true,decide_eq_true_eq,bne_iff_ne] at c
  omega
 ·have sj':=sj.2.1
  rw [merge_1] at sj'
  have hal:=allA_length hok
  obtain ⟨x,hx,h2⟩:=loop_scan (body:=law08_ArenaSlots_b60 a (mergeA a l)) a.slots.length (fun _=>true) (fun _=>true)
   (fun i hi _=>by
    have hn:=nameE_iff.1 (run_names l a i hi)
    have hi2:i<(mergeA a l).1.slots.length:=by rw [merge_1]; omega
    have e1:(nth a.slots (i:Int)).key=(nth (mergeA a l).1.slots (i:Int)).key:=by rw [merge_1,nth_nat,nth_nat]; exact hn.2.symm
    have e2:(nth a.slots (i:Int)).val.kind=(nth (mergeA a l).1.slots (i:Int)).val.kind:=by rw [merge_1,nth_nat,nth_nat]; exact hn.1.symm
    refine ⟨fun _=>⟨fun c=>?_,fun _=>⟨⟨by omega,by omega⟩,⟨by omega,by omega⟩,⟨by omega,by omega⟩,⟨by omega,by omega⟩,fun c=>?_,fun _=>by rw [wrapS hi (by have:=sa.2.1; omega)]⟩⟩,fun c=>by simp at c; omega⟩
    ·rw [e1] at c; simp at c
    ·rw [e2] at c; simp at c)
   (fun i hi hp=>by cases hp) ⟨fun c=>by simp at c,fun _=>rfl⟩
  refine ⟨x,hx,fun s e=>⟨sj,_,rfl,?_⟩,fun y e=>?_⟩
  ·have hsrt:=allA_sorted hok
   obtain ⟨y,hy,h3⟩:=loop_run (body:=law08_ArenaSlots_b508 (allA (mergeA a l).1)) (fun s=>(allA (mergeA a l).1).length + 1 - s.toNat) (fun s=>∃ i:Nat,s=(i:Int)∧1≤i∧i≤1000) (fun z=>∃ s,z=.inl s) (by
    rintro s ⟨i,rfl,hi1,hi0⟩
    rw [merge_1]
    by_cases hlt:i<(allA (runA a l)).length
    ·have e1:IntKind.i64.wrap ((i:Int) - 1)=((i - 1:Nat):Int):=by rw [wrap64 (by omega) (by omega)]; omega
     have hlt2:lessE (nth (allA (runA a l)) ((i - 1:Nat):Int)) (nth (allA (runA a l)) (i:Int))=true:=by
      rw [lessE_iff,nth_nat,nth_nat]
      have:=List.pairwise_iff_getElem.1 hsrt (i - 1) i (by omega) hlt (by omega)
      simpa [hlt,show i - 1<(allA (runA a l)).length by omega] using this
     refine .inl ⟨((i + 1:Nat):Int),⟨fun _=>?_,fun c=>by simp at c; omega⟩,⟨i + 1,rfl,by omega,by omega⟩,by simp; omega⟩
     rw [e1]
     refine ⟨⟨by omega,by omega⟩,⟨by omega,by omega⟩,_,rfl,fun c=>?_,fun _=>by rw [wrapS hlt (by omega)]⟩
     rw [hlt2] at c; cases c
    ·exact .inr ⟨_,⟨fun c=>by simp at c; omega,fun _=>rfl⟩,_,rfl⟩) 1 ⟨1,rfl,by omega,by omega⟩
   refine ⟨y,hy,fun s2 e2=>?_,fun y2 e2=>?_⟩
   ·obtain ⟨m,hm,hm1,hm4⟩:=size4 gn
    obtain ⟨z,hz,h4⟩:=loop_run (body:=law08_ArenaSlots_b613 n (mergeA a l)) (fun s=>(mergeA a l).1.slots.length - s.2.toNat) (fun s=>∃ k:Nat,s=((mergeA a l).1.slots.take k,(k:Int))∧k≤1000) (fun z=>z.1=(mergeA a l).1.slots) (by
     rintro s ⟨k,rfl,hk⟩
     unfold law08_ArenaSlots_b613
     rw [hm]
     have hj:arOk (mergeA a l).1=true:=by rw [merge_1]; exact hok
     have hL:(mergeA a l).1.slots.length≤100:=sj.2.1
     by_cases hlt:k<(mergeA a l).1.slots.length
     ·refine .inl ⟨((mergeA a l).1.slots.take (k + m),((k + m:Nat):Int)),⟨fun _=>⟨sj,_,rfl,?_,?_⟩,fun c=>by simp at c; omega⟩,⟨k + m,rfl,by omega⟩,by simp; omega⟩
      ·have:(chunkA (mergeA a l).1 (k:Int) (m:Int)).length≤100:=by
        unfold chunkA; rw [hj]; simp; omega
       simp only [List.length_take]; omega
      ·have:chunkA (mergeA a l).1 (k:Int) (m:Int)=((mergeA a l).1.slots.drop k).take m:=by unfold chunkA; rw [hj]; simp
       rw [this,wrap64 (by simp; omega) (by simp; omega),List.take_add]; rfl
     ·refine .inr ⟨_,⟨fun c=>by simp at c; omega,fun _=>rfl⟩,?_⟩
      exact List.take_of_length_le (by omega)) ([],0) ⟨0,by simp,by omega⟩
    refine ⟨z,hz,?_,?_⟩
    ·rw [h4]; exact sj.1
    ·rw [h4,allE_self,merge_1,hal]; simp
   ·obtain ⟨s3,h3⟩:=h3; rw [e2] at h3; cases h3
  ·rcases h2 with ⟨h3,_⟩ | ⟨i,_,h4,_⟩
   ·rw [e] at h3; cases h3
   ·cases h4
end Go.Proofs.Ythifkdgljapmeaa
