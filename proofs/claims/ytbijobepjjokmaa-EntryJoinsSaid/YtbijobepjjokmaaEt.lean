/- Entries in the order of their names: sorted places; the evaluations of arena's first functions. -/
import Derived.Test.YtbijobepjjokmaaEs
namespace Go.Proofs.Ytbijobepjjokmaa
open Go Go.RowKit
set_option linter.unusedVariables false
set_option linter.unusedSimpArgs false

theorem loop_run {S R:Type} {body:S→S ⊕ R→Prop} (m:S→Nat) (Inv:S→Prop) (Pq:R→Prop)
  (step:∀ s,Inv s→(∃ s',body s (.inl s')∧Inv s'∧m s'<m s)∨(∃ x,body s (.inr x)∧Pq x)) (s:S) (h:Inv s):∃ x,LoopR body s x∧Pq x:=by
 have key:∀ n s,m s<n→Inv s→∃ x,LoopR body s x∧Pq x:=by
  intro n
  induction n with
  | zero=>intro s hm; omega
  | succ n ih =>
   intro s hm hi
   rcases step s hi with ⟨s',hb,hi',hm'⟩ | ⟨x,hb,hp⟩
   ·obtain ⟨x,hl,hp⟩:=ih s' (by omega) hi'; exact ⟨x,.step hb hl,hp⟩
   ·exact ⟨x,.done hb,hp⟩
 exact key _ s (Nat.lt_succ_self _) h

/-! ### names in order -/
def ltN (a b:Ent):Prop:=a.val.kind<b.val.kind∨(a.val.kind=b.val.kind∧a.key<b.key)
theorem lessE_iff {a b:Ent}:lessE a b=true↔ltN a b:=by
 unfold lessE ltN
 by_cases h:a.val.kind=b.val.kind
 ·have:(a.val.kind != b.val.kind)=false:=by simp [h]
  rw [this,cond_false,lt_str]; simp [h]
 ·have:(a.val.kind != b.val.kind)=true:=by simp [h]
  rw [this,cond_true]; simp [h]
theorem lessE_no {a b:Ent}:lessE a b=false↔¬ ltN a b:=by rw [← lessE_iff]; simp
theorem nameE_iff {a b:Ent}:nameE a b=true↔a.val.kind=b.val.kind∧a.key=b.key:=by unfold nameE; simp
theorem ltN_irr (a:Ent):¬ ltN a a:=by
 rintro (h | ⟨_,h⟩)
 ·omega
 ·exact List.lt_irrefl _ h
theorem ltN_trans {a b c:Ent} (h:ltN a b) (k:ltN b c):ltN a c:=by
 rcases h with h | ⟨h1,h2⟩ <;> rcases k with k | ⟨k1,k2⟩
 ·exact .inl (by omega)
 ·exact .inl (by omega)
 ·exact .inl (by omega)
 ·exact .inr ⟨by omega,List.lt_trans h2 k2⟩
theorem ltN_tri {a b:Ent} (h:¬ ltN a b) (k:¬ ltN b a):a.val.kind=b.val.kind∧a.key=b.key:=by
 have h1:a.val.kind=b.val.kind:=by
  have h2:¬ a.val.kind<b.val.kind:=fun e=>h (.inl e)
  have h3:¬ b.val.kind<a.val.kind:=fun e=>k (.inl e)
  omega
 refine ⟨h1,?_⟩
 have h2:¬ a.key<b.key:=fun e=>h (.inr ⟨h1,e⟩)
 have h3:¬ b.key<a.key:=fun e=>k (.inr ⟨h1.symm,e⟩)
 exact List.le_antisymm (List.not_lt.1 h3) (List.not_lt.1 h2)
theorem ltN_name {a b c:Ent} (h:a.val.kind=b.val.kind∧a.key=b.key):(ltN a c↔ltN b c)∧(ltN c a↔ltN c b):=by
 unfold ltN; rw [h.1,h.2]; exact ⟨Iff.rfl,Iff.rfl⟩
theorem ltN_asymm {a b:Ent} (h:ltN a b):¬ ltN b a:=fun k=>ltN_irr _ (ltN_trans h k)
/-! ### sorted places -/
/-! ### of arena itself -/
end Go.Proofs.Ytbijobepjjokmaa
