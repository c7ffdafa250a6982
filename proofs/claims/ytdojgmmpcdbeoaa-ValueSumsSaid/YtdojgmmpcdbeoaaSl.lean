/- What holds of the join of values: it is the least of those that both are below. -/
import Derived.Test.YtdojgmmpcdbeoaaSc
namespace Go.Proofs.Ytdojgmmpcdbeoaa
open Go Go.RowKit
set_option linter.unusedVariables false
set_option linter.unusedSimpArgs false

/-! ### what lies in a word -/
def inI (n:Int):Prop:=-9223372036854775808≤n∧n<9223372036854775808
def inU (n:Int):Prop:=0≤n∧n<18446744073709551616
structure WfV (v:Val):Prop where
 kind:inI v.kind
 time:inI v.time
 node:inI v.node
 plus:∀ x∈v.plus,inI x
 minus:∀ x∈v.minus,inI x
 flags:inU v.flags
/-! ### the greater of two -/
theorem mostL_length (a b:List Int):(mostL a b).length=min a.length b.length:=by unfold mostL; simp
theorem mostL_mem {a b:List Int} {x:Int} (h:x∈mostL a b):x∈a∨x∈b:=by
 unfold mostL at h
 obtain ⟨i,hi,rfl⟩:=List.getElem_of_mem h
 simp only [List.length_zipWith] at hi
 rw [List.getElem_zipWith]
 by_cases hle:a[i]≤b[i]
 ·right; rw [Int.max_eq_right hle]; exact List.getElem_mem _
 ·left; rw [Int.max_eq_left (by omega)]; exact List.getElem_mem _

/-! ### which of two registers is behind: texts in order -/
/-! ### the join of two values of a kind -/
structure Ok2 (a b:Val):Prop where
 l:okV a=true
 r:okV b=true
 k:a.kind=b.kind
theorem Ok2.symm {a b:Val} (h:Ok2 a b):Ok2 b a:=⟨h.r,h.l,h.k.symm⟩
theorem kinds_of {a:Val} (h:okV a=true):a.kind=1∨a.kind=2∨a.kind=3:=by
 unfold okV at h
 by_cases h1:a.kind=1
 ·exact .inl h1
 ·by_cases h2:a.kind=2
  ·exact .inr (.inl h2)
  ·have e1:(a.kind==1)=false:=by simpa using h1
   have e2:(a.kind==2)=false:=by simpa using h2
   rw [e1,e2,cond_false,cond_false] at h
   simp only [Bool.and_eq_true,beq_iff_eq] at h
   exact .inr (.inr h.1)
abbrev J (a b:Val):Val:=(joinV a b).1
theorem J_1 {a b:Val} (h:Ok2 a b) (k:a.kind=1):J a b=bif behind b a then b else a:=by
 have e1:(a.kind != b.kind)=false:=by simpa using h.k
 have e2:(a.kind==1)=true:=by simpa using k
 unfold J joinV; rw [h.l,h.r,e1,e2]; rfl
theorem J_2 {a b:Val} (h:Ok2 a b) (k:a.kind=2):J a b=⟨a.kind,a.time,a.node,a.dead,a.text,mostL a.plus b.plus,mostL a.minus b.minus,0⟩:=by
 have e1:(a.kind != b.kind)=false:=by simpa using h.k
 have e2:(a.kind==1)=false:=by simp [k]
 have e3:(a.kind==2)=true:=by simpa using k
 unfold J joinV; rw [h.l,h.r,e1,e2,e3]; rfl
theorem J_3 {a b:Val} (h:Ok2 a b) (k:a.kind=3):J a b=⟨a.kind,a.time,a.node,a.dead,a.text,[],[],orF a.flags b.flags⟩:=by
 have e1:(a.kind != b.kind)=false:=by simpa using h.k
 have e2:(a.kind==1)=false:=by simp [k]
 have e3:(a.kind==2)=false:=by simp [k]
 unfold J joinV; rw [h.l,h.r,e1,e2,e3]; rfl
theorem ok2 {a:Val} (h:okV a=true) (k:a.kind=2):okC a=true:=by unfold okV at h; rw [k] at h; exact h
theorem ok3 {a:Val} (h:okV a=true) (k:a.kind=3):okF a=true:=by unfold okV at h; rw [k] at h; exact h
theorem noReg_eq {a:Val} (h:noReg a=true):a.time=0∧a.node=0∧a.dead=false∧a.text=[]:=by
 simp only [noReg,Bool.and_eq_true,beq_iff_eq,Bool.not_eq_true'] at h
 exact ⟨h.1,h.2.1,h.2.2.1,h.2.2.2⟩
theorem okC_eq {a:Val} (h:okC a=true):okN a.plus=true∧okN a.minus=true∧noReg a=true∧a.flags=0:=by
 simp only [okC,Bool.and_eq_true,beq_iff_eq] at h
 exact ⟨h.1,h.2.1,h.2.2.1,h.2.2.2⟩
theorem okF_eq {a:Val} (h:okF a=true):noReg a=true∧a.plus=[]∧a.minus=[]:=by
 simp only [okF,Bool.and_eq_true,beq_iff_eq] at h
 exact ⟨h.1,h.2.1,h.2.2⟩
theorem okN_most {a b:List Int} (ha:okN a=true) (hb:okN b=true):okN (mostL a b)=true:=by
 simp only [okN,Bool.and_eq_true,List.all_eq_true,decide_eq_true_eq,beq_iff_eq] at *
 refine ⟨fun x hx=>?_,by rw [mostL_length]; omega⟩
 rcases mostL_mem hx with h | h
 ·exact ha.1 x h
 ·exact hb.1 x h
theorem J_kind {a b:Val} (h:Ok2 a b):(J a b).kind=a.kind:=by
 rcases kinds_of h.l with k | k | k
 ·rw [J_1 h k]; cases behind b a
  ·rfl
  ·exact h.k.symm
 ·rw [J_2 h k]
 ·rw [J_3 h k]
theorem J_ok {a b:Val} (h:Ok2 a b):okV (J a b)=true:=by
 rcases kinds_of h.l with k | k | k
 ·rw [J_1 h k]; cases behind b a
  ·exact h.l
  ·exact h.r
 ·have hb:b.kind=2:=by rw [← h.k]; exact k
  obtain ⟨a1,a2,a3,a4⟩:=okC_eq (ok2 h.l k)
  obtain ⟨b1,b2,b3,b4⟩:=okC_eq (ok2 h.r hb)
  obtain ⟨n1,n2,n3,n4⟩:=noReg_eq a3
  rw [J_2 h k]
  unfold okV
  rw [k]
  show okC _=true
  simp only [okC,okN_most a1 b1,okN_most a2 b2,noReg,n1,n2,n3,n4]
  rfl
 ·obtain ⟨a3,a1,a2⟩:=okF_eq (ok3 h.l k)
  obtain ⟨n1,n2,n3,n4⟩:=noReg_eq a3
  rw [J_3 h k]
  unfold okV
  rw [k]
  show okF _=true
  simp only [okF,noReg,n1,n2,n3,n4]
  rfl
theorem Ok2.j {a b c:Val} (h:Ok2 a b) (k:Ok2 b c):Ok2 (J a b) c:=⟨J_ok h,k.r,(J_kind h).trans (h.k.trans k.k)⟩
/-! ### below -/
end Go.Proofs.Ytdojgmmpcdbeoaa
