/- Entries in the order of their names: sorted places; the evaluations of arena's first functions. -/
import Derived.Test.YtbijobepjjokmaaEs
namespace Go.Proofs.Ytbijobepjjokmaa
open Go Go.RowKit
set_option linter.unusedVariables false
set_option linter.unusedSimpArgs false

theorem loop_run {S R:Type} {body:S→S ⊕ R→Prop} (m:S→Nat) (Inv:S→Prop) (Pq:R→Prop)
  (step:∀ s,Inv s→(∃ s',body s (.inl s')∧Inv s'∧m s'<m s)∨(∃ x,body s (.inr x)∧Pq x)) (s:S) (h:Inv s):∃ x,LoopR body s x∧Pq x:=by
 have key:∀ n s,m s<n→Inv s→∃ x,LoopR body s x∧Pq x:=by
  intro n
  induction n with
  | zero=>intro s hm; omega
  | succ n ih =>
   intro s hm hi
   rcases step s hi with ⟨s',hb,hi',hm'⟩ | ⟨x,hb,hp⟩
   ·obtain ⟨x,hl,hp⟩:=ih s' (by omega) hi'; exact ⟨x,.step hb hl,hp⟩
   ·exact ⟨x,.done hb,hp⟩
 exact key _ s (Nat.lt_succ_self _) h

/-! ### names in order -/
/-! ### sorted places -/
/-! ### of arena itself -/
end Go.Proofs.Ytbijobepjjokmaa
