/- Operations under a guard that is not decided. -/
import Derived.Test.YtdojgmmpcdbeoaaWv
namespace Go.Proofs.Ytdojgmmpcdbeoaa
open Go Go.RowKit
set_option linter.unusedVariables false
set_option linter.unusedSimpArgs false

theorem gdT {α : Type} {c : Bool} {v u : α} (h : c = true) : (bif c then v else u) = v := by rw [h]; rfl
theorem gdF {α : Type} {c : Bool} {v u : α} (h : c = false) : (bif c then v else u) = u := by rw [h]; rfl
theorem andL {a b : Bool} (h : (a && b) = true) : a = true := by cases a <;> simp_all
theorem andR {a b : Bool} (h : (a && b) = true) : b = true := by cases a <;> simp_all
theorem orL {a b : Bool} (h : (a || b) = false) : a = false := by cases a <;> simp_all
theorem orR {a b : Bool} (h : (a || b) = false) : b = false := by cases a <;> simp_all
theorem andM {a b : Bool} (h : a = true) (k : b = true) : (a && b) = true := by rw [h, k]; rfl
theorem notT {a : Bool} (h : a = false) : (!a) = true := by rw [h]; rfl
theorem notF {a : Bool} (h : (!a) = true) : a = false := by cases a <;> simp_all
theorem eq_ev {α : Type} {R : α → Prop} {x y : α} (h : x = y) (e : R y) : R x := h ▸ e
theorem and_f1 {a b : Bool} (h : a = false) : (a && b) = false := by rw [h]; rfl
theorem and_f2 {a b : Bool} (h : b = false) : (a && b) = false := by rw [h, Bool.and_false]
theorem or_t1 {a b : Bool} (h : a = true) : (a || b) = true := by rw [h]; rfl
theorem or_t2 {a b : Bool} (h : b = true) : (a || b) = true := by rw [h, Bool.or_true]
theorem orM {a b : Bool} (h : a = false) (k : b = false) : (a || b) = false := by rw [h, k]; rfl
theorem mapv1 {ρ : Env} {a : Operand} {v : Value} (h : ev ρ a = v) : [a].map (ev ρ) = [v] := by simp [h]
theorem mapv2 {ρ : Env} {a b : Operand} {v u : Value} (h : ev ρ a = v) (k : ev ρ b = u) : [a, b].map (ev ρ) = [v, u] := by simp [h, k]
theorem mapv3 {ρ : Env} {a b c : Operand} {v u x : Value} (h : ev ρ a = v) (k : ev ρ b = u) (l : ev ρ c = x) : [a, b, c].map (ev ρ) = [v, u, x] := by simp [h, k, l]
theorem mapv4 {ρ : Env} {a b c d : Operand} {v u x y : Value} (h : ev ρ a = v) (k : ev ρ b = u) (l : ev ρ c = x) (m : ev ρ d = y) : [a, b, c, d].map (ev ρ) = [v, u, x, y] := by simp [h, k, l, m]
section
variable {P : Program} {r : Option Nat} {N : Nat} {ops : Array Oper} {Q : Post} {rest : List Oper} {ρ : Env} {ds : List Deferred} {w : World}
theorem want_ct {t j : Nat} {c : Bool} (hj : (ops[j]?).bind (·.dst) = some t) (hv : ρ t = .bool c) : wantE ops ρ (some (j, true)) = c := by
  cases c <;> simp [wantE, yieldE, hj, hv]
theorem want_cf {t j : Nat} {c : Bool} (hj : (ops[j]?).bind (·.dst) = some t) (hv : ρ t = .bool c) : wantE ops ρ (some (j, false)) = !c := by
  cases c <;> simp [wantE, yieldE, hj, hv]
theorem want_gt {t j : Nat} {c e : Bool} (hj : (ops[j]?).bind (·.dst) = some t) (hv : ρ t = (bif c then .bool e else undef)) : wantE ops ρ (some (j, true)) = (c && e) := by
  cases c <;> cases e <;> simp [wantE, yieldE, hj, hv, undef]
theorem want_gf {t j : Nat} {c e : Bool} (hj : (ops[j]?).bind (·.dst) = some t) (hv : ρ t = (bif c then .bool e else undef)) : wantE ops ρ (some (j, false)) = (c && !e) := by
  cases c <;> cases e <;> simp [wantE, yieldE, hj, hv, undef]
variable {d : Nat} {ty : TypeId} {pos : String} {after : Array Edge} {g : Option (Nat × Bool)}
theorem o_vg {op : Op} {v : Value} {c : Bool} (hw : wantE ops ρ g = c) (hr : c = true → RunV P ρ w ⟨some d, op, ty, pos, after, g⟩ v) (hp : plainOp op = true) (hd : Nat.blt d N = true)
    (h : EO P r N ops Q rest (upd ρ d (bif c then v else undef)) ds w) : EO P r N ops Q (⟨some d, op, ty, pos, after, g⟩ :: rest) ρ ds w := by
  cases c with
  | true => exact o_v (hr rfl) hw hp hd h
  | false => exact o_no hw hd h
theorem o_callg {f : FuncId} {as : List Operand} {vs : List Value} {ts : Array TypeId} {c : Bool} {V : Value} (hf : CF P f) (hw : wantE ops ρ g = c) (ha : c = true → as.map (ev ρ) = vs)
    (hc : c = true → Calls P f vs.toArray w (Ret fun v w' => Ext w w' ∧ v = V)) (hd : Nat.blt d N = true)
    (h : ∀ w', Ext w w' → EO P r N ops Q rest (upd ρ d (bif c then V else undef)) ds w') :
    EO P r N ops Q (⟨some d, .call { callee := .value (.func f), args := as.toArray, argTypes := ts }, ty, pos, after, g⟩ :: rest) ρ ds w := by
  cases c with
  | true => exact o_call hf (ha rfl) (hc rfl) hw hd fun v w' ⟨F, e⟩ => by subst e; exact h w' F
  | false => exact o_no hw hd (h w (Fr.refl _ _))
variable {dd : Option Nat}
theorem r_pickB {C A B : Operand} {c x y : Bool} (hC : ev ρ C = .bool c) (hA : c = true → ev ρ A = .bool x) (hB : c = false → ev ρ B = .bool y) : RunV P ρ w ⟨dd, .pick C A B, ty, pos, after, g⟩ (.bool (bif c then x else y)) := by
  cases c with
  | true => exact r_pick_t hC (hA rfl)
  | false => exact r_pick_f hC (hB rfl)
theorem r_pickAnd {C A B : Operand} {c x : Bool} (hC : ev ρ C = .bool c) (hA : c = true → ev ρ A = .bool x) (hB : ev ρ B = .bool false) : RunV P ρ w ⟨dd, .pick C A B, ty, pos, after, g⟩ (.bool (c && x)) := by
  cases c with
  | true => exact r_pick_t hC (hA rfl)
  | false => exact r_pick_f hC hB
theorem r_pickOr {C A B : Operand} {c y : Bool} (hC : ev ρ C = .bool c) (hA : ev ρ A = .bool true) (hB : c = false → ev ρ B = .bool y) : RunV P ρ w ⟨dd, .pick C A B, ty, pos, after, g⟩ (.bool (c || y)) := by
  cases c with
  | true => exact r_pick_t hC hA
  | false => exact r_pick_f hC (hB rfl)
theorem bif_int {c : Bool} {k : IntKind} {a b : Int} {v : Value} (h : v = bif c then .int k a else .int k b) : v = .int k (bif c then a else b) := by cases c <;> exact h
end
end Go.Proofs.Ytdojgmmpcdbeoaa
