/- A loop round by round; a region that draws its order, order by order; slices over a block of one's own. -/
import Derived.Test.YtdojgmmpcdbeoaaWm
namespace Go.Proofs.Ytdojgmmpcdbeoaa
open Go Go.RowKit
set_option linter.unusedVariables false
set_option linter.unusedSimpArgs false

section
variable {P : Program} {r : Option Nat} {N : Nat} {Q : Post} {ρ : Env} {ds : List Deferred} {w : World}
end

section
variable {P : Program} {r : Option Nat} {N : Nat} {ops : Array Oper} {Q : Post}
/-- What is left of a region, order by order. -/
def ordP (P : Program) (r : Option Nat) (N : Nat) (ops : Array Oper) (Q : Post) : Nat → Array Bool → Env → List Deferred → World → Prop
  | 0, l, ρ, ds, w => Region.ready .any ops l = [] ∧ Q .normal ρ ds w
  | f + 1, l, ρ, ds, w => (Region.ready .any ops l = [] → Q .normal ρ ds w) ∧
    ∀ i ∈ Region.ready .any ops l, ∃ o, ops[i]? = some o ∧ EO P r N ops (fun e ρ' ds' w' => match e with | .normal => ordP P r N ops Q f (l.setIfInBounds i true) ρ' ds' w' | e => Q e ρ' ds' w') [o] ρ ds w
theorem ord_sound:∀ (f:Nat) (l:Array Bool) (a:Act) (w:World),a.tmps.size=N→ordP P r N ops Q f l (envOf a) a.defers w→wpAnyIn (FW r) 0 P .any ops (lift N Q) f l a w:=by
 intro f
 induction f with
 | zero=>intro l a w hs h; exact ⟨h.1,hs,h.2⟩
 | succ f ih =>
  intro l a w hs h
  refine ⟨fun hr=>⟨hs,h.1 hr⟩,fun i hi=>?_⟩
  obtain ⟨o,ho,h⟩:=h.2 i hi
  have h:=h a hs rfl rfl
  unfold wpOpIn
  simp only [ho]
  unfold wpListIn at h
  have conv:∀ a' w',wpListIn (FW r) 0 P ops (lift N (fun e ρ' ds' w'=>match e with | .normal=>ordP P r N ops Q f (l.setIfInBounds i true) ρ' ds' w' | e=>Q e ρ' ds' w')) [] a' w'→wpAnyIn (FW r) 0 P .any ops (lift N Q) f (l.setIfInBounds i true) a' w':=by
   rintro a' w' ⟨h1,h2⟩
   exact ih _ a' w' h1 h2
  split
  ·rename_i hw
   rw [if_pos hw] at h
   unfold Oper.wpIn at h ⊢
   refine ⟨h.1,?_⟩
   have h2:=h.2
   generalize (o.semAt (FW r).round a.eval).run P w=x at h2 ⊢
   cases x with
   | ok nx w1 =>
    cases nx <;> simp only [Oper.uponIn] at h2 ⊢ <;>
     first
      | exact conv _ _ h2
      | exact ⟨h2.1,CallsIn.mono h2.2 (fun e w'' he=>by
        cases e with
        | returned v=>exact conv _ _ he
        | panicked c=>exact he
        | outgrown=>exact he)⟩
      | exact ⟨h2.1,RowsIn.mono h2.2 (fun _ _ he=>conv _ _ he)⟩
      | exact ⟨h2.1,RoundIn.mono h2.2 (fun e w'' he=>by
        cases e with
        | returned v=>exact conv _ _ he
        | panicked c=>exact he
        | outgrown=>exact he)⟩
   | halt x w1 =>
    cases x <;> simp only [Oper.uponIn] at h2 ⊢
    exact h2
  ·rename_i hw
   rw [if_neg hw] at h
   exact ⟨h.1,conv _ _ h.2⟩
theorem ec_anyO {id:Nat} {ρ:Env} {ds:List Deferred} {w:World} (hm:P.follows .mixedOrders=true) {n:Nat} (hn:ops.size=n) (h:∀ w',Ext w w'→ordP P r N ops Q n (Array.replicate n false) ρ ds w'):EC P r N (.region id ops true) Q ρ ds w:=by
 intro a h1 h2 h3
 subst h2; subst h3; subst hn
 exact wpIn_region_any hm (ord_sound _ _ _ _ h1 (h _ (Ext.drew w)))
def AllN (φ:Nat→Prop):List Nat→Prop
 | []=>True
 | i::l=>φ i∧AllN φ l
theorem allN_spec {φ:Nat→Prop}:∀ {l:List Nat},AllN φ l→∀ i∈l,φ i
 | [],_,_,hi=>by cases hi
 | _::_,h,_,hi=>(List.mem_cons.1 hi).elim (fun e=>e ▸ h.1) (fun hi=>allN_spec h.2 _ hi)
theorem ord_cons {f:Nat} {l:Array Bool} {ρ:Env} {ds:List Deferred} {w:World} (i:Nat) (is:List Nat) (hr:Region.ready .any ops l=i::is)
  (h:AllN (fun i=>∃ o,ops[i]?=some o∧EO P r N ops (fun e ρ' ds' w'=>match e with | .normal=>ordP P r N ops Q f (l.setIfInBounds i true) ρ' ds' w' | e=>Q e ρ' ds' w') [o] ρ ds w) (i::is)):ordP P r N ops Q (f + 1) l ρ ds w :=
 ⟨fun e=>(by rw [hr] at e; cases e),fun j hj=>allN_spec h j (hr ▸ hj)⟩
theorem ord_end {f:Nat} {l:Array Bool} {ρ:Env} {ds:List Deferred} {w:World} (hr:Region.ready .any ops l=[]) (h:Q .normal ρ ds w):ordP P r N ops Q f l ρ ds w:=by
 cases f with
 | zero=>exact ⟨hr,h⟩
 | succ f=>exact ⟨fun _=>h,fun j hj=>by rw [hr] at hj; cases hj⟩
end

section
variable {P : Program} {r : Option Nat} {N : Nat} {ops : Array Oper} {Q : Post} {rest : List Oper} {ρ : Env} {ds : List Deferred} {w : World} {d : Option Nat} {d0 : Nat} {ty : TypeId} {pos : String} {after : Array Edge} {g : Option (Nat × Bool)}
/-- The place of an element of a slice that begins a block. -/
theorem r_iaM {T E bytes : Nat} {z : Value} {X I : Operand} {b len c : Nat} {k : IntKind} {i : Int} (hT : Slc P T E 1 bytes z) (hX : ev ρ X = .slice (some ⟨b, 0, none⟩) len c) (hI : ev ρ I = .int k i) (h : 0 ≤ i ∧ i < (len : Int)) :
    RunV P ρ w ⟨d, .indexAddr T X I, ty, pos, after, g⟩ (.pointer (some ⟨b, i.toNat, none⟩)) := by
  have := r_ia (P := P) (w := w) (d := d) (ty := ty) (pos := pos) (after := after) (g := g) hT hX hI ⟨_, rfl, rfl⟩ h.1 h.2
  have e : elemA (some ⟨b, 0, none⟩) 1 i.toNat = ⟨b, i.toNat, none⟩ := by simp [elemA]
  rwa [e] at this
/-- A slice that is made, as a block. -/
theorem o_makeB {t E bytes : Nat} {zv : Value} {cs : List Value} {X Y : Operand} {kl kc : IntKind} (m : Nat) (hT : Slc P t E 1 bytes zv) (hX : ev ρ X = .int kl (m : Int)) (hY : ev ρ Y = .int kc (m : Int)) (hs : m * bytes ≤ 281474976710656 ∧ m ≤ 9223372036854775807)
    (hc : (madeCells zv.cells (m * 1)).toList = cs) (hg : wantE ops ρ g = true) (hd : Nat.blt d0 N = true)
    (h : ∀ b w', b = w.heap.size → Ext w w' → Blk w' b E cs → EO P r N ops Q rest (upd ρ d0 (.slice (some ⟨b, 0, none⟩) m m)) ds w') :
    EO P r N ops Q (⟨some d0, .makeSlice t X Y, ty, pos, after, g⟩ :: rest) ρ ds w := by
  obtain ⟨hu, j, h2, h3, h4, h5⟩ := hT
  have hb : (j.bytes : Int) * (m : Int) ≤ 281474976710656 := by
    have hx : ((m * bytes : Nat) : Int) ≤ 281474976710656 := by have := hs.1; omega
    rw [Int.natCast_mul, Int.mul_comm] at hx
    rw [h5]; exact hx
  have hr := run_make (P := P) w t E j zv hu h2 h3 kl kc (m : Int) (m : Int) (by omega) (Int.le_refl _) hb (by have := hs.2; omega)
  rw [Int.toNat_natCast, h4] at hr
  refine eo_val (o := ⟨some d0, .makeSlice t X Y, ty, pos, after, g⟩) hg rfl hd ?_ (h w.heap.size (w.alloc (.cells (madeCells zv.cells (m * 1)) E)) rfl (Ext.alloc _ _) ?_)
  · simp only [execOp, hX, hY, hr, Sem.run_bind, Result.andThen, Sem.run_pure]
  · subst hc
    have := Blk.alloc w E (madeCells zv.cells (m * 1)).toList
    rwa [Array.toArray_toList] at this
/-- A method of an interface's value, by its contract. -/
theorem o_callI {f : FuncId} {X : Operand} {t : TypeId} {v0 : Value} {name : String} {as : List Operand} {vs : List Value} {ts : Array TypeId} {post : Value → World → Prop} (hf : MF P t name f) (hX : ev ρ X = .iface t v0) (ha : as.map (ev ρ) = vs)
    (hc : Calls P f (v0 :: vs).toArray w (Ret post)) (hg : wantE ops ρ g = true) (hd : Nat.blt d0 N = true) (h : ∀ v w', post v w' → EO P r N ops Q rest (upd ρ d0 v) ds w') :
    EO P r N ops Q (⟨some d0, .call { callee := .invoke X name, args := as.toArray, argTypes := ts }, ty, pos, after, g⟩ :: rest) ρ ds w :=
  o_inlI hf hX ha hg hd (hc.mono fun e w' ⟨u, e1, hp⟩ => ⟨u, e1, h _ _ hp⟩)
theorem rowD_arC (w:World) {m:Nat} (k:IntKind) (e:List Int) (he:e.length=m):RowD (kI k) w (arC (Value.int k) m e) e:=by
 intro i hi
 show ((arC (Value.int k) m e).drop (i * 1)).take 1=[Value.int k (e.getD i default)]
 have h:=arC_at (Value.int k) (m:=m) e (i:=(i:Int)) ⟨by omega,by omega⟩
 rw [Int.toNat_natCast] at h
 rw [Nat.mul_one]
 obtain ⟨hlt,h2⟩:=List.getElem?_eq_some_iff.1 h
 rw [List.drop_eq_getElem_cons hlt,h2]; rfl
/-- A block of numbers that is turned no more, as a slice. -/
theorem seal_arC {L : List Nat} {w : World} {b et m : Nat} {k : IntKind} {e : List Int} (hB : Blk w b et (arC (Value.int k) m e)) (hb : b ∉ L) (he : e.length = m) : Stb L w (fun w => SlC (kI k) w (some ⟨b, 0, none⟩) e.length e) :=
  bs_seal hB hb (by show (arC (Value.int k) m e).length = e.length * 1; simp [arC, he]) (Stb.triv (rowD_arC w k e he) |>.mono fun _ _ => rowD_arC _ k e he)
end
end Go.Proofs.Ytdojgmmpcdbeoaa
