/- The arguments of a row, opened: what lies in memory is data; and a law's contract as the row asks for it. -/
import Derived.Test.YthbfhgenkhkpfaaGreatSl
import Derived.ProofKit
import Derived.WalkKit
import Derived.OpenShut
import Derived.ChangeOld
import Derived.Below
import Derived.Deep.Slices
import Derived.Test.YthbfhgenkhkpfaaGreatEs
import Derived.Test.YthbfhgenkhkpfaaGreatBh
import Derived.Test.YthbfhgenkhkpfaaGreatPi
namespace Go.Proofs.YthbfhgenkhkpfaaGreat
open Go Go.ChangeShapes Go.WideShapes Go.ChangeAt Go.RowKit Go.Deep
set_option linter.unusedVariables false
set_option linter.unusedSimpArgs false

/-- What is read at type t is of kind k, and G holds of it. -/
def Opens {T : Type} (P : Program) (t : TypeId) (k : Kd T) (G : T → Prop) : Prop :=
  ∀ (H : Type) (enc : TypeId × Value → H) (w : World) (base : Nat) (spare : Nat → Bool) (held : Bool) (fuel : Nat) (cs : List Value) (x : DataW H × List MemPlace),
    DataW.trod enc P w base spare held fuel t cs = some x → ∃ d, cs.length = k.n ∧ G d ∧ Stb [] w (fun w => k.r w cs d)
def inK (k:IntKind) (n:Int):Prop:=(Lit.int k n).wf=true
theorem inK_i64 {n:Int} (h:inK .i64 n):inI n:=by
 have h:(decide (IntKind.i64.min≤n)&&decide (n≤IntKind.i64.max))=true:=h
 simp only [Bool.and_eq_true,decide_eq_true_eq] at h
 have e1:IntKind.i64.min=-9223372036854775808:=by decide
 have e2:IntKind.i64.max=9223372036854775807:=by decide
 rw [e1,e2] at h; unfold inI; omega
section
variable {P : Program} {t e : TypeId}
def shortL {T:Type} (l:List T):Prop:=l.length≤9223372036854775807
end

/-- A law's contract, as the row asks for it. -/
theorem law_any {P : Program} {f : FuncId} {args : Array Value} {W : World} (h : Calls P f args W (Ret fun v w' => Ext W w' ∧ v = .bool true)) : Calls P f args W fun e w' => e = .returned (.bool true) ∧ Below W.heap.size W w' :=
  h.mono fun e w' ⟨v, he, hx, hv⟩ => by subst hv; exact ⟨he, hx.below⟩
theorem lt_nil (W:World):Lt [] W:=fun m hm=>by cases hm
end Go.Proofs.YthbfhgenkhkpfaaGreat

/- Frames, opened. -/
namespace Go.Proofs.YthbfhgenkhkpfaaGreat
open Go Go.ChangeShapes Go.WideShapes Go.ChangeAt Go.RowKit Go.Deep
set_option linter.unusedVariables false
set_option linter.unusedSimpArgs false

/-- An array of four numbers, opened: its cells are these. -/
theorem opens_four {H : Type} {enc : TypeId × Value → H} {P : Program} {w : World} {base : Nat} {spare : Nat → Bool} {held : Bool} {fuel : Nat} {t e : TypeId} {cs : List Value} {x : DataW H × List MemPlace} (ht : P.underlying t = some (.array 4 e)) (he : P.underlying e = some (.int .i64)) (hc : P.cellsOf e = 1) (hc4 : P.cellsOf t = 4)
    (h : DataW.trod enc P w base spare held fuel t cs = some x) : ∃ l : List Int, l.length = 4 ∧ (∀ n ∈ l, inI n) ∧ cs = [.int .i64 (nth l 0), .int .i64 (nth l 1), .int .i64 (nth l 2), .int .i64 (nth l 3)] := by
  obtain ⟨xs, m, _, _, hl, hx, hf⟩ := DataW.trod_array ht h
  rw [hc4] at hl
  rw [hc] at hf
  obtain ⟨c0, c1, c2, c3, rfl⟩ : ∃ c0 c1 c2 c3, cs = [c0, c1, c2, c3] := by
    match cs, hl with
    | [c0, c1, c2, c3], _ => exact ⟨_, _, _, _, rfl⟩
  have hg : ∀ (i : Nat) (c : Value), i < 4 → (([c0, c1, c2, c3].drop (i * 1)).take 1) = [c] → ∃ n : Int, c = .int .i64 n ∧ inI n := fun i c hi hcs => by
    have h1 := hf i hi
    rw [hcs, List.getElem?_eq_getElem (by omega)] at h1
    obtain ⟨n, hn, _, hw⟩ := DataW.trod_int he h1
    exact ⟨n, by simpa using hn, inK_i64 hw⟩
  obtain ⟨n0, rfl, g0⟩ := hg 0 c0 (by decide) rfl
  obtain ⟨n1, rfl, g1⟩ := hg 1 c1 (by decide) rfl
  obtain ⟨n2, rfl, g2⟩ := hg 2 c2 (by decide) rfl
  obtain ⟨n3, rfl, g3⟩ := hg 3 c3 (by decide) rfl
  exact ⟨[n0, n1, n2, n3], rfl, fun n hn => by simp at hn; rcases hn with rfl | rfl | rfl | rfl <;> assumption, rfl⟩
def kI4:Kd (List Int):=⟨4,fun _ cs d=>d.length=4∧cs=[.int .i64 (nth d 0),.int .i64 (nth d 1),.int .i64 (nth d 2),.int .i64 (nth d 3)]⟩
theorem opens_I4:Opens Tryz.prog 26 kI4 (fun l=>l.length=4∧∀ n∈l,inI n):=fun H enc w base spare held fuel cs x h=>by
 obtain ⟨l,h1,h2,rfl⟩:=opens_four un_4_int un_int (by kernel_rfl) (by kernel_rfl) h
 exact ⟨l,rfl,⟨h1,h2⟩,fun _ _=>⟨h1,rfl⟩⟩
end Go.Proofs.YthbfhgenkhkpfaaGreat

/- Arrays as arguments. -/
namespace Go.Proofs.YthbfhgenkhkpfaaGreat
open Go Go.ChangeShapes Go.WideShapes Go.ChangeAt Go.RowKit Go.Deep
set_option linter.unusedVariables false
theorem okWide_array {P:Program} {w:World} {r:Reach} {base n:Nat} {t e:TypeId} {v:Value} (ht:P.underlying t=some (.array n e)) (h:Value.okWide P w r base t v):∃ cs:Array Value,v=.agg cs∧cs.size=P.cellsOf t:=by
 simp only [Value.okWide,ht] at h
 obtain ⟨cs,h1,h2,_⟩:=h
 exact ⟨cs,h1,h2⟩
end Go.Proofs.YthbfhgenkhkpfaaGreat
