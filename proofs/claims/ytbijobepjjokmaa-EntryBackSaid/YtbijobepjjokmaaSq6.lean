/- EntryBack: what is put is got again, and nothing else is. -/
import Derived.Test.YtbijobepjjokmaaGh6
import Derived.Test.YtbijobepjjokmaaHn
import Derived.Test.YtbijobepjjokmaaSf2
namespace Go.Proofs.Ytbijobepjjokmaa
open Go Go.RowKit
set_option linter.unusedVariables false
set_option linter.unusedSimpArgs false

theorem sm_getE' (s:Str):sm (getE s).1.val:=by
 unfold getE
 cases ((putE (readE s)).2 != 0)||!((putE (readE s)).1==s) with
 | true=>exact (by decide:sm zeroV)
 | false=>exact sm_readV _ _
/-- What is got of bytes: an entry whose bytes they are, or nothing. -/
theorem getE_two (s : Str) : (getE s = (readE s, 0) ∧ putE (readE s) = (s, 0) ∧ okE (readE s) = true) ∨ getE s = (zeroE, 2) := by
  unfold getE
  cases hc : ((putE (readE s)).2 != 0) || !((putE (readE s)).1 == s) with
  | true => exact .inr rfl
  | false =>
    have hd : ((putE (readE s)).2 != 0) = false := by revert hc; cases ((putE (readE s)).2 != 0) <;> simp
    have he : ((putE (readE s)).1 == s) = true := by revert hc; cases ((putE (readE s)).1 == s) <;> simp
    refine .inl ⟨rfl, ?_, ?_⟩
    · have h1 : (putE (readE s)).1 = s := by simpa using he
      have h2 : (putE (readE s)).2 = 0 := by simpa using hd
      rw [← h2]; exact Prod.ext h1 rfl
    · cases h1 : okE (readE s) with
      | true => rfl
      | false => exfalso; unfold putE at hd; rw [h1] at hd; simp at hd
theorem getE_putT {a:Ent} (ha:okE a=true) (hf:inU a.val.flags):getE (putT a)=(a,0):=by
 obtain ⟨_,h2,_⟩:=putT_parts ha hf
 have e:putE a=(putT a,0):=by unfold putE; rw [ha]; rfl
 unfold getE
 rw [h2,e]; simp
theorem entryBack_ev (a:Ent) (s:Str) (ga:GEnt a) (hs:shortL s):law07_EntryBack_raw a s true:=by
 refine ⟨fun h=>(by cases h),fun _=>⟨fun _=>rfl,fun f1=>?_⟩⟩
 have hfew:fewE a=true:=by revert f1; cases fewE a <;> simp
 have hl:¬ 100<(s.length:Int):=by
  intro c
  have:decide ((100:Int)<(s.length:Int))=true:=by simpa using c
  rw [this] at f1; simp at f1
 have sa:=fewE_sm hfew
 have hput:(okE a=true∧putE a=(putT a,0))∨putE a=([],2):=by
  unfold putE
  cases ho:okE a with
  | true=>exact .inl ⟨rfl,rfl⟩
  | false=>exact .inr rfl
 have hlen:(putE a).1.length≤42:=by
  rcases hput with ⟨ho,e⟩ | e
  ·rw [e]; exact putT_len ho
  ·rw [e]; simp
 refine ⟨sa,_,rfl,by unfold okG; omega,_,rfl,fun _=>sa,fun h=>?_,fun _=>⟨by unfold okG; omega,_,rfl,sm_getE' s,_,rfl,fun _=>sm_getE' s,fun _=>sm_getE' s,?_⟩⟩
 ·exfalso
  rcases hput with ⟨ho,e⟩ | e
  ·have hg:=getE_putT ho ga.2.1.flags
   have h42:=putT_42 ho
   rw [e] at h
   simp only [hg,sameE_self,h42] at h
   revert h; simp
  ·rw [e] at h
   revert h; simp
 ·rcases getE_two s with ⟨e1,e2,e3⟩ | e1
  ·rw [e1]
   simp only [e2,checkE_eq,e3]
   simp
  ·rw [e1]
   have hz:sameE zeroE (⟨([]:Str),(⟨(0:Int),(0:Int),(0:Int),false,([]:Str),([]:List Int),([]:List Int),(0:Int)⟩:Val)⟩:Ent)=true:=sameE_self zeroE
   simp only [hz]
   simp
end Go.Proofs.Ytbijobepjjokmaa
