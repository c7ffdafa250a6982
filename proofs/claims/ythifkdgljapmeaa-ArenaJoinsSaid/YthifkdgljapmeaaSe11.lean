/- ArenaTells, ArenaJoins: what arena says is what the document says. -/
import Derived.Test.YthifkdgljapmeaaGd1
import Derived.Test.YthifkdgljapmeaaGd2
import Derived.Test.YthifkdgljapmeaaSf2
namespace Go.Proofs.Ythifkdgljapmeaa
open Go Go.RowKit
set_option linter.unusedVariables false
set_option linter.unusedSimpArgs false

theorem fewA_sma {a:Arena} (h:fewA a=true):sma a:=by
 unfold fewA at h
 have h1:=andL h
 have h2:=andR h
 have h3:(a.slots.length:Int)≤12:=by unfold entriesB at h1; simpa using andL h1
 simp only [decide_eq_true_eq] at h2
 exact ⟨entriesB_sml h1 (by decide),by omega,by omega⟩
theorem sma_new (n:Int):sma (newA n).1:=by
 unfold newA
 cases (decide (n<1)||decide (8<n)) <;> exact ⟨⟨Nat.zero_le _,fun e h=>by cases h⟩,Nat.zero_le _,Nat.zero_le _⟩
theorem eqInts_self (l:List Int):eqInts l l=true:=by simp [eqInts]
theorem sameA_self (a:Arena):sameA a a=true:=by unfold sameA; rw [allE_self,eqInts_self]; simp
theorem sml_sub {l m:List Ent} (h:sml l) (hs:∀ e∈m,e∈l) (hl:m.length≤1000000):sml m:=⟨hl,fun e he=>h.2 e (hs e he)⟩
theorem all_sml {a:Arena} (h:sma a):sml (allA a):=by
 unfold allA
 cases ho:arOk a with
 | false=>exact ⟨Nat.zero_le _,fun e h=>by cases h⟩
 | true =>
  rw [cond_true]
  have h3:=h.2.2
  refine ⟨by rw [List.length_map]; omega,fun e he=>?_⟩
  obtain ⟨i,hi,rfl⟩:=List.mem_map.1 he
  have hix:=(arOk_iff.1 ho).2.2.2
  rw [hix] at hi
  have:=idR_mem.1 ((idxR_perm _).mem_iff.1 hi)
  exact sml_nth h.1 this.1 this.2
theorem chunk_sml {a:Arena} (h:sma a) (t n:Int):sml (chunkA a t n):=by
 unfold chunkA
 cases (arOk a&&decide (0≤t)) with
 | false=>exact ⟨Nat.zero_le _,fun e h=>by cases h⟩
 | true =>
  rw [cond_true]
  have h2:=h.2.1
  exact sml_sub h.1 (fun e he=>List.mem_of_mem_drop (List.mem_of_mem_take he)) (by rw [List.length_take,List.length_drop]; omega)
theorem arenaTells_ev (a b:Arena) (n m:Int) (key:Str) (ga:GArena a) (gb:GArena b) (wn:inK .i64 n) (wm:inK .i64 m) (gk:shortL key):law08_ArenaTells_raw a b n m key true:=by
 refine ⟨fun h=>(by cases h),fun _=>⟨fun f1=>rfl,fun f1=>?_⟩⟩
 have f2:fewA a=true∧fewA b=true:=by revert f1; cases fewA a <;> cases fewA b <;> simp
 have sa:=fewA_sma f2.1
 have sb:=fewA_sma f2.2
 have sn:=sma_new n
 have s1:=all_sml sa
 have s2:=chunk_sml sa n m
 repeat' first
  | (refine ⟨_,rfl,?_⟩)
  | (refine ⟨?_,?_⟩; assumption)
  | (refine ⟨fun _=>?_,?_⟩; assumption)
 rw [sameA_self,allE_self,allE_self,checkA_eq]
 simp
theorem wfl_of {l:List Ent} (h:Gs_api_Entry l):wfl l:=fun e he=>(h.2 e he).2.1
theorem sma_merge {a:Arena} {l:List Ent} (ha:sma a) (hl:sml l):sma (mergeA a l).1:=by
 have:=(merge_inv ha hl l.length (Nat.le_refl _)).1
 rwa [List.take_length] at this
theorem arenaJoins_ev (a:Arena) (x:Ent) (l:List Ent) (ga:GArena a) (gx:GEnt x) (gl:Gs_api_Entry l):law08_ArenaJoins_raw a x l true:=by
 refine ⟨fun h=>(by cases h),fun _=>⟨fun _=>by decide,fun f1=>rfl,fun f1=>?_⟩⟩
 have f2:fewA a=true∧fewE x=true∧entriesB l 12=true:=by revert f1; cases fewA a <;> cases fewE x <;> cases entriesB l 12 <;> simp
 have sa:=fewA_sma f2.1
 have sx:=fewE_sm f2.2.1
 have sl:=entriesB_sml f2.2.2 (by decide)
 have wx:=gx.2.1
 have wl:=wfl_of gl
 have sj:=sma_join (e:=x) sa sx
 have sm:=sma_merge sa sl
 repeat' first
  | (refine ⟨_,rfl,?_⟩)
  | (refine ⟨?_,?_⟩; assumption)
  | (refine ⟨fun _=>?_,?_⟩; assumption)
 rw [sameA_self,sameA_self]
 simp
end Go.Proofs.Ythifkdgljapmeaa
