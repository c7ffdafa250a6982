/- The slots of an arena, one by one. -/
import Derived.Test.YthifkdgljapmeaaIt
namespace Go.Proofs.Ythifkdgljapmeaa
open Go Go.RowKit
set_option linter.unusedVariables false
set_option linter.unusedSimpArgs false

def eachL (l:List Ent):List (Int × Ent):=(List.range l.length).map fun i:Nat=>((i:Int),l.getD i default)
def eachA (a:Arena):List (Int × Ent):=bif arOk a then eachL a.slots else []
theorem eachL_length (l:List Ent):(eachL l).length=l.length:=by simp [eachL]
theorem eachL_drop {l:List Ent} {i:Nat} (h:i<l.length):(eachL l).drop i=((i:Int),l.getD i default)::(eachL l).drop (i + 1):=by
 rw [List.drop_eq_getElem_cons (by rw [eachL_length]; exact h)]
 congr 1
 simp [eachL]
theorem each_ev (a:Arena) (h:sma a):arena_each_1_raw a (eachA a):=by
 have h2:=h.2.1
 refine ⟨h,fun c=>?_,fun c=>?_⟩ <;> rw [checkA_ne] at c
 ·have:arOk a=false:=by simpa using c
  unfold eachA; rw [this]; rfl
 ·have:arOk a=true:=by simpa using c
  have e:eachA a=eachL a.slots:=by unfold eachA; rw [this]; rfl
  rw [e]
  obtain ⟨x,hx,hp⟩:=loop_run (body:=arena_each_1_b13 a) (fun s=>a.slots.length - s.1.toNat) (fun s=>∃ i:Nat,i≤a.slots.length∧s=((i:Int),(eachL a.slots).drop i)) (fun x=>x=.inl ((a.slots.length:Int),[])) (by
   rintro s ⟨i,hi,rfl⟩
   by_cases hlt:i<a.slots.length
   ·refine .inl ⟨(((i + 1:Nat):Int),(eachL a.slots).drop (i + 1)),⟨fun _=>⟨⟨by simp,by simpa using hlt⟩,(eachL a.slots).drop (i + 1),?_,?_,trivial⟩,fun h=>by simp at h; omega⟩,⟨i + 1,by omega,rfl⟩,by simp; omega⟩
    ·exact eachL_drop hlt
    ·rw [wrapS hlt (by omega)]
   ·obtain rfl:i=a.slots.length:=by omega
    refine .inr ⟨_,⟨fun h=>by simp at h,fun _=>rfl⟩,?_⟩
    have:(eachL a.slots).drop a.slots.length=[]:=List.drop_eq_nil_of_le (by rw [eachL_length]; exact Nat.le_refl _)
    simp [this]) ((0:Int),eachL a.slots) ⟨0,by omega,by simp⟩
  refine ⟨x,hx,fun s e=>?_,fun _ _=>trivial⟩
  rw [e] at hp; cases hp; rfl
theorem arena_each_it {L:List Nat} {w:World} {bP1:Nat} {csP1:List Value} (d1:Arena) (HB1:Stb L w (fun w=>Blk w bP1 25 csP1)) (HP1:Stb L w (fun w=>kArena.r w csP1 d1)) (hL:Lt L w) (h:sma d1) :
  IterC Try.prog 60 [.pointer (some ⟨bP1,0,none⟩)] (eachA d1) arena_each_1_X L w:=arena_each_1_it d1 HB1 HP1 hL (each_ev d1 h)
end Go.Proofs.Ythifkdgljapmeaa
