/- ArenaHolds, ArenaFull: what is joined is there; a full arena takes no new name. -/
import Derived.Test.YthifkdgljapmeaaGd3
import Derived.Test.YthifkdgljapmeaaGd4
import Derived.Test.YthifkdgljapmeaaSe10
import Derived.Test.YthifkdgljapmeaaAr
namespace Go.Proofs.Ythifkdgljapmeaa
open Go Go.RowKit
set_option linter.unusedVariables false
set_option linter.unusedSimpArgs false

theorem blw_at {a:Arena} {e:Ent} (h:Blw e a) (ho:arOk a=true) (wa:wfa a) (we:WfV e.val):∃ i:Nat,i<a.slots.length∧findA a e.val.kind e.key=(i:Int)∧nameE (a.slots.getD i default) e=true∧belowV e.val (a.slots.getD i default).val=true:=by
 obtain ⟨f,hf,hn,hv⟩:=h
 obtain ⟨i,hi,rfl⟩:=mem_getD hf
 exact ⟨i,hi,find_at ho hi (nameE_symm hn),nameE_symm hn,hv⟩
theorem arenaHolds_ev (a:Arena) (x:Ent) (ga:GArena a) (gx:GEnt x):law08_ArenaHolds_raw a x true:=by
 refine ⟨fun h=>(by cases h),fun _=>⟨fun f1=>rfl,fun f1=>?_⟩⟩
 have f2:fewA a=true∧fewE x=true:=by revert f1; cases fewA a <;> cases fewE x <;> simp
 have sa:=fewA_sma f2.1
 have sx:=fewE_sm f2.2
 have wx:=gx.2.1
 have wa:wfa a:=wfl_of ga.2.1
 have sj:=sma_join (e:=x) sa sx
 refine ⟨sa,sx,wx,_,rfl,fun h=>⟨fun _=>sa,?_⟩,fun h=>?_⟩
 ·have h0:(joinA a x).2.2≠0:=by simpa using h
  obtain ⟨e1,e2⟩:=join_err h0
  rw [e1,e2,sameA_self]; rfl
 ·have h0:(joinA a x).2.2=0:=by simpa using h
  obtain ⟨ho,he,hb⟩:=join_there wa wx h0
  have hjo:=join_arOk x ho
  have wj:=join_wfa wa wx
  have hab:=join_above ho wa wx
  obtain ⟨i,hi,hf,hn,hv⟩:=blw_at hb hjo wj wx
  have hall:(((decide (findA (joinA a x).1 x.val.kind x.key<0))||(decide (((joinA a x).1.slots.length:Int)≤findA (joinA a x).1 x.val.kind x.key)))||(!(belowA a (joinA a x).1)))=false:=by
   rw [hab,hf]; simp; omega
  refine ⟨sj,fun _=>sa,fun _=>sj,fun _=>sj,fun c=>?_,fun _=>?_⟩
  ·rw [hall,checkA_ne,hjo] at c; cases c
  ·have hm:=getD_mem' hi
   have hyo:=(arOk_iff.1 hjo).2.1 _ hm
   obtain ⟨o,q⟩:=joinE_ok hyo he hn
   have hns:nth (joinA a x).1.slots (findA (joinA a x).1 x.val.kind x.key)=(joinA a x).1.slots.getD i default:=by rw [hf]; rfl
   have hr:0≤findA (joinA a x).1 x.val.kind x.key∧findA (joinA a x).1 x.val.kind x.key<((joinA a x).1.slots.length:Int):=by rw [hf]; omega
   have sn:=sml_nth sj.1 hr.1 hr.2
   refine ⟨hr,sn,sx,_,rfl,sj,sx,wx,_,rfl,fun _=>⟨hr,sm_joinE sn sx,_,rfl,fun _=>sj,fun _=>sa,fun _=>sj,?_⟩,fun c=>?_⟩
   ·have hag:=join_again wj wx hjo he hb
    have hJ:=((belowV_iff _ _).1 hv).2
    have hs:sameE (joinE (nth (joinA a x).1.slots (findA (joinA a x).1 x.val.kind x.key)) x).1 (nth (joinA a x).1.slots (findA (joinA a x).1 x.val.kind x.key))=true:=by
     rw [hns,sameE_iff,q]
     rw [J_comm o (wj _ hm) wx,hJ]
    rw [hs,hag]
    simp only [sameA_self,Bool.not_false,Bool.and_self,Bool.true_and,beq_self_eq_true]
    rcases join_is wa wx h0 with ⟨h1,h2,h3⟩ | ⟨h1,h2⟩
    ·rw [h1,h2]
     have:=belowA_self ho wa
     unfold alikeA; rw [this]; rfl
    ·rw [h1]
     have:alikeA a (joinA a x).1=false:=by
      cases hc:alikeA a (joinA a x).1 with
      | false=>rfl
      | true=>exact absurd (hb.trans wx wj wa (andR hc)) h2
     rw [this]; rfl
   ·rw [hns,q] at c; cases c
theorem arenaFull_ev (a:Arena) (x:Ent) (ga:GArena a) (gx:GEnt x):law08_ArenaFull_raw a x true:=by
 refine ⟨fun h=>(by cases h),fun _=>?_⟩
 have hs1:(!(!((fewA a)&&(fewE x))))=true→sma a∧sm x.val:=fun c=>by
  have f2:fewA a=true∧fewE x=true:=by revert c; cases fewA a <;> cases fewE x <;> simp
  exact ⟨fewA_sma f2.1,fewE_sm f2.2⟩
 refine ⟨fun c=>(hs1 c).1,fun c=>?_,fun _=>rfl,fun c=>?_⟩
 ·refine (hs1 ?_).2
  revert c; cases ((fewA a)&&(fewE x)) <;> simp
 ·have hc:((fewA a)&&(fewE x))=true∧arOk a=true∧okE x=true:=by
   rw [checkA_ne,checkE_ne] at c
   revert c; cases ((fewA a)&&(fewE x)) <;> cases arOk a <;> cases okE x <;> simp
  obtain ⟨f0,ho,he⟩:=hc
  obtain ⟨sa,sx⟩:=hs1 (by rw [f0]; rfl)
  have wx:=gx.2.1
  have hl:=(arOk_iff.1 ho).1
  refine ⟨sa,sx,wx,_,rfl,sa,fun d=>?_,fun d=>?_⟩
  ·simp only [Bool.and_eq_true,Bool.not_eq_true',decide_eq_false_iff_not] at d
   refine ⟨fun _=>sa,?_⟩
   rcases join_cases a x with ⟨h1 | h1,_⟩ | ⟨_,_,⟨_,h1,h2,h3⟩ | ⟨_,h1,h2,h3⟩ | ⟨i,hi,hf,hn,h3⟩⟩
   ·rw [ho] at h1; cases h1
   ·rw [he] at h1; cases h1
   ·rw [h3]; simp [sameA_self]
   ·omega
   ·omega
  ·refine ⟨fun k=>?_,fun k=>?_⟩
   ·simp only [decide_eq_true_eq] at k
    rcases join_cases a x with ⟨h1 | h1,_⟩ | ⟨_,_,⟨_,h1,h2,h3⟩ | ⟨_,h1,h2,h3⟩ | ⟨i,hi,hf,hn,h3⟩⟩
    ·rw [ho] at h1; cases h1
    ·rw [he] at h1; cases h1
    ·omega
    ·omega
    ·rw [h3,wrap64 (by omega) (by omega)]; simp
   ·simp only [decide_eq_false_iff_not] at k
    rcases join_cases a x with ⟨h1 | h1,_⟩ | ⟨_,_,⟨_,h1,h2,h3⟩ | ⟨_,h1,h2,h3⟩ | ⟨i,hi,hf,hn,h3⟩⟩
    ·rw [ho] at h1; cases h1
    ·rw [he] at h1; cases h1
    ·simp only [Bool.and_eq_false_iff,Bool.not_eq_false',decide_eq_true_eq] at d; omega
    ·rw [h3,wrap64 (by omega) (by omega)]; simp
    ·omega
end Go.Proofs.Ythifkdgljapmeaa
