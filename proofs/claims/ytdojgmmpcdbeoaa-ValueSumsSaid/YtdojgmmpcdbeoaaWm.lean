/- Maps with numbers as keys, arrays by a place, bound functions, bytes as a text. -/
import Derived.Test.YtdojgmmpcdbeoaaWe
import Derived.MapKept
import Derived.Laws.BytesString
namespace Go.Proofs.Ytdojgmmpcdbeoaa
open Go Go.RowKit
set_option linter.unusedVariables false
set_option linter.unusedSimpArgs false

/-! ### maps -/
section maps
variable {P : Program} {r : Option Nat} {N : Nat} {ops : Array Oper} {Q : Post} {rest : List Oper} {ρ : Env} {ds : List Deferred} {w : World}
variable {ty : TypeId} {pos : String} {after : Array Edge} {g : Option (Nat × Bool)}
end maps

/-! ### arrays, by a place -/
/-- The cells of an array. -/
def arC {T : Type} [Inhabited T] (f : T → Value) (m : Nat) (e : List T) : List Value := (List.range m).map fun j : Nat => f (nth e (j : Int))
theorem arC_at {T:Type} [Inhabited T] (f:T→Value) {m:Nat} (e:List T) {i:Int} (h:0≤i∧i<(m:Int)):(arC f m e)[i.toNat]?=some (f (nth e i)):=by
 unfold arC
 have:i.toNat<m:=by omega
 simp only [List.getElem?_map,List.getElem?_range this,Option.map_some]
 rw [Int.toNat_of_nonneg h.1]
theorem arC_set {T:Type} [Inhabited T] (f:T→Value) {m:Nat} (e:List T) {i:Int} (v:T) (h:0≤i∧i<(m:Int)) (he:e.length=m):(arC f m e).set i.toNat (f v)=arC f m (e.set i.toNat v):=by
 apply List.ext_getElem?
 intro j
 unfold arC
 by_cases hj:j<m
 ·by_cases hji:i.toNat=j
  ·subst hji
   simp [hj,nth,he]
  ·simp only [List.getElem?_set_ne hji,List.getElem?_map,List.getElem?_range hj,Option.map_some,nth,Int.toNat_natCast,List.getD_eq_getElem?_getD,List.getElem?_set_ne hji]
 ·rw [List.getElem?_eq_none (by simp; omega),List.getElem?_eq_none (by simp; omega)]
section arrays
variable {P : Program} {r : Option Nat} {N : Nat} {ops : Array Oper} {Q : Post} {rest : List Oper} {ρ : Env} {ds : List Deferred} {w : World} {d : Option Nat}
variable {ty : TypeId} {pos : String} {after : Array Edge} {g : Option (Nat × Bool)}
theorem r_iaA {t el:TypeId} {m:Nat} {X I:Operand} {b:Nat} {k:IntKind} {i:Int} (hT:P.underlying t=some (.array m el)) (hs:Sz P el 1) (hX:ev ρ X=.pointer (some ⟨b,0,none⟩)) (hI:ev ρ I=.int k i) (h:0≤i∧i<(m:Int)) :
  RunV P ρ w ⟨d,.indexAddr t X I,ty,pos,after,g⟩ (.pointer (some ⟨b,i.toNat,none⟩)):=by
 obtain ⟨j,h2,h3⟩:=hs
 have hadd:(⟨b,0,none⟩:Addr).add i.toNat=⟨b,i.toNat,none⟩:=by
  unfold Addr.add; split
  ·rename_i h0; simp at h0; simp; omega
  ·simp
 simp [RunV,execOp,hX,hI,Instr.indexAt,asIntOf,Instr.sureAddr,run_underlying hT,sizeOf,typeInfo,h2,h3,h.1,h.2,hadd]
theorem Blk.cellV {T:Type} [Inhabited T] {b:Nat} {e0:TypeId} {f:T→Value} {m:Nat} {e:List T} {i:Int} (hB:Blk w b e0 (arC f m e)) (h:0≤i∧i<(m:Int)):w.cell? ⟨b,i.toNat,none⟩=some (f (nth e i)):=hB.cell (arC_at f e h)
theorem o_storeV {T:Type} [Inhabited T] {t:TypeId} {X Y:Operand} {b:Nat} {e0:TypeId} {f:T→Value} {m:Nat} {e:List T} {i:Int} {v:T} (hX:ev ρ X=.pointer (some ⟨b,i.toNat,none⟩)) (hB:Blk w b e0 (arC f m e)) (h:0≤i∧i<(m:Int)) (he:e.length=m) (hY:ev ρ Y=f v) (hf:∀ v,(f v).cells=#[f v]∧oneC (f v)=true) (hT:Sz P t 1) (hg:wantE ops ρ g=true)
  (hk:∀ w',Fr [b] w w'→Blk w' b e0 (arC f m (e.set i.toNat v))→EO P r N ops Q rest ρ ds w') :
  EO P r N ops Q (⟨none,.store t X Y,ty,pos,after,g⟩::rest) ρ ds w:=by
 refine o_store (vs:=[f v]) (o:=i.toNat) hX hB (by rw [hY]; exact (hf v).1) hT (by simp [(hf v).2]) (by simp [arC]; omega) hg ?_
 intro w' F B
 refine hk w' F ?_
 have:setL (arC f m e) i.toNat [f v]=arC f m (e.set i.toNat v):=by simp only [setL]; exact arC_set f e v h he
 rwa [this] at B
theorem int_one {k:IntKind} (v:Int):(Value.int k v).cells=#[.int k v]∧oneC (Value.int k v)=true:=⟨rfl,rfl⟩
/-! ### bound functions -/
/-! ### bytes as a text -/
end arrays
end Go.Proofs.Ytdojgmmpcdbeoaa
