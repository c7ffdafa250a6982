/- Entries in any order come to one arena: in plain Lean. -/
import Derived.Test.YthifkdgljapmeaaAm
namespace Go.Proofs.Ythifkdgljapmeaa
open Go Go.RowKit
set_option linter.unusedVariables false
set_option linter.unusedSimpArgs false

theorem wfl_app {l m:List Ent} (wl:wfl l) (hm:∀ x∈m,x∈l):wfl m:=fun x hx=>wl x (hm x hx)
/-- Where one list of entries has room all lists of just these have. -/
theorem order_room {a : Arena} {l m : List Ent} (ho : arOk a = true) (wa : wfa a) (wl : wfl l) (wm : wfl m) (hm : ∀ x ∈ m, x ∈ l) (h : NoErr a l) : NoErr a m := by
  have hab := (belowA_iff.1 (run_above l ho wa wl)).2.2
  refine run_room m (t := runA a l) ho wa wm (run_arOk l ho) (run_cap l a) (fun x hx => ?_) (fun x hx => ?_)
  · obtain ⟨f, hf, hn, _⟩ := hab x hx
    exact ⟨f, hf, hn⟩
  · obtain ⟨h1, f, hf, hn, _⟩ := run_there l wa wl h x (hm x hx)
    exact ⟨h1, f, hf, hn⟩
theorem order_below {a:Arena} {l m:List Ent} (ho:arOk a=true) (wa:wfa a) (wl:wfl l) (wm:wfl m) (hm:∀ x∈m,x∈l) (h:NoErr a l):belowA (runA a m) (runA a l)=true :=
 run_least m wa wm (run_wfa l wa wl) (run_above l ho wa wl) (fun x hx=>(run_there l wa wl h x (hm x hx)).2)
end Go.Proofs.Ythifkdgljapmeaa
