/- Kinds of data as they lie in memory, and the operations that touch memory. -/
import Derived.Test.YtpopikeebobjnaaWo
namespace Go.Proofs.Ytpopikeebobjnaa
open Go Go.RowKit
set_option linter.unusedVariables false
set_option linter.unusedSimpArgs false

/-! ### addresses -/
def ad (a:Addr) (j:Nat):Addr:=⟨a.block,a.off + j,none⟩
def elemA (A:Option Addr) (n i:Nat):Addr:=match A with | some a=>⟨a.block,a.off + i * n,none⟩ | none=>⟨0,0,none⟩
def CellsAt (w:World) (a:Addr) (cs:List Value):Prop:=∀ j v,cs[j]?=some v→w.cell? (ad a j)=some v
theorem CellsAt.at {w:World} {a:Addr} {cs:List Value} {j:Nat} {v:Value} (h:CellsAt w a cs) (hv:cs[j]?=some v):w.cell? (ad a j)=some v:=h j v hv
theorem CellsAt.at0 {w:World} {a:Addr} {v:Value} {cs:List Value} (h:CellsAt w a (v::cs)) (hs:a.spot=none):w.cell? a=some v:=by
 have:=h 0 v rfl
 obtain ⟨b,o,s⟩:=a
 simp only at hs; subst hs
 exact this
theorem CellsAt.sub {w:World} {a:Addr} {cs vs:List Value} {j n:Nat} (h:CellsAt w a cs) (hv:(cs.drop j).take n=vs):CellsAt w (ad a j) vs:=by
 intro i v hi
 subst hv
 rw [List.getElem?_take] at hi
 split at hi
 ·rw [List.getElem?_drop] at hi
  have:=h (j + i) v hi
  simpa [ad,Nat.add_assoc] using this
 ·cases hi
theorem Blk.cells {w:World} {b:Nat} {e:TypeId} {cs:List Value} (h:Blk w b e cs):CellsAt w ⟨b,0,none⟩ cs:=fun j v hj=>by
 have:=h.cell hj
 simpa [ad] using this

/-! ### kinds -/
structure Kd (T:Type) where
 n:Nat
 r:World→List Value→T→Prop

def kI (k:IntKind):Kd Int:=⟨1,fun _ cs d=>cs=[.int k d]⟩
def kB:Kd Bool:=⟨1,fun _ cs d=>cs=[.bool d]⟩
def kS:Kd Str:=⟨1,fun _ cs d=>cs=[str d]⟩

def nth {T:Type} [Inhabited T] (d:List T) (i:Int):T:=d.getD i.toNat default

/-- The elements of a slice. -/
def SlC {T : Type} [Inhabited T] (k : Kd T) (w : World) (A : Option Addr) (cap : Nat) (d : List T) : Prop :=
  d.length ≤ cap ∧ ∀ i : Nat, i < d.length → (∃ a, A = some a ∧ a.spot = none) ∧ ∃ cs, cs.length = k.n ∧ CellsAt w (elemA A k.n i) cs ∧ k.r w cs (d.getD i default)
def kSl {T:Type} [Inhabited T] (k:Kd T):Kd (List T):=⟨1,fun w cs d=>∃ A cap,cs=[.slice A d.length cap]∧SlC k w A cap d⟩

theorem Stb.sl {T:Type} [Inhabited T] {k:Kd T} {L:List Nat} {w:World} {v:Value} {d:List T} (h:Stb L w (fun w=>(kSl k).r w [v] d)) :
  ∃ A c,v=.slice A d.length c∧Stb L w (fun w=>SlC k w A c d):=by
 obtain ⟨A,c,e,_⟩:=h.now
 cases e
 refine ⟨A,c,rfl,fun w' ha=>?_⟩
 obtain ⟨A',c',e',h'⟩:=h w' ha
 cases e'
 exact h'
theorem SlC.nil {T:Type} [Inhabited T] (k:Kd T) (w:World) (A:Option Addr) (c:Nat):SlC k w A c []:=⟨Nat.zero_le _,fun i h=>by simp at h⟩

/-- The cells that a stable fact names lie outside L, and so are the same in every world that it speaks of. -/
theorem Stb.cells {L : List Nat} {w : World} {a : Addr} {n : Nat} (hn : 0 < n) {ψ : World → List Value → Prop}
    (h : Stb L w (fun w => ∃ cs, cs.length = n ∧ CellsAt w a cs ∧ ψ w cs)) : ∃ cs, cs.length = n ∧ Stb L w (fun w => CellsAt w a cs ∧ ψ w cs) := by
  obtain ⟨cs, hl, hc, _⟩ := h.now
  have hlt : a.block < w.heap.size := by
    have h0 : w.cell? (ad a 0) = some cs[0] := hc 0 _ (by simp)
    unfold World.cell? at h0
    cases hb : w.heap[(ad a 0).block]? with
    | none => rw [hb] at h0; cases h0
    | some o => exact (Array.getElem?_eq_some_iff.1 hb).1
  have hnot : a.block ∉ L := by
    intro hm
    have := h { w with heap := w.heap.setIfInBounds a.block (.map #[] 0) } (fun k hk hn => by
      have : a.block ≠ k := fun e => hn (e ▸ hm)
      simp [Array.getElem?_setIfInBounds_ne this])
    obtain ⟨cs', hl', hc', _⟩ := this
    have h0 := hc' 0 _ (show cs'[0]? = some (cs'[0]'(by omega)) by simp)
    simp [World.cell?, ad, hlt] at h0
  refine ⟨cs, hl, fun w' ha => ?_⟩
  obtain ⟨cs', hl', hc', hψ⟩ := h w' ha
  have : cs' = cs := by
    apply List.ext_getElem? 
    intro j
    by_cases hj : j < n
    · have h1 := hc j _ (show cs[j]? = some (cs[j]'(by omega)) by simp)
      have h2 := hc' j _ (show cs'[j]? = some (cs'[j]'(by omega)) by simp)
      have e : w'.cell? (ad a j) = w.cell? (ad a j) := World.cell?_of_block (w := w) (ha _ hlt hnot)
      rw [e, h1] at h2
      simp only [Option.some.injEq] at h2
      simp [show j < cs.length by omega, show j < cs'.length by omega, h2]
    · rw [List.getElem?_eq_none (by omega), List.getElem?_eq_none (by omega)]
  subst this
  exact ⟨hc', hψ⟩

theorem Stb.elem {T:Type} [Inhabited T] {k:Kd T} {L:List Nat} {w:World} {A:Option Addr} {c:Nat} {d:List T} (hn:0<k.n) (h:Stb L w (fun w=>SlC k w A c d)) (i:Int) (h0:0≤i) (h1:i<d.length) :
  ∃ cs,cs.length=k.n∧Stb L w (fun w=>CellsAt w (elemA A k.n i.toNat) cs∧k.r w cs (nth d i)) :=
 Stb.cells hn (h.mono fun w hw=>(hw.2 i.toNat (by omega)).2)

section runs
variable {P : Program} {ρ : Env} {w : World} {d : Option Nat} {ty : TypeId} {pos : String} {after : Array Edge} {g : Option (Nat × Bool)}
theorem r_fad {T f off:Nat} {X:Operand} {a:Addr} (hF:Fld P T f off) (hs:a.spot=none) (hX:ev ρ X=.pointer (some a)) :
  RunV P ρ w ⟨d,.fieldAddr T X f,ty,pos,after,g⟩ (.pointer (some (ad a off))):=by
 obtain ⟨b,o,s⟩:=a
 simp only at hs; subst hs
 exact r_fa hF rfl hX
theorem r_lda' {T n:Nat} {X:Operand} {a:Addr} {vs:List Value} (hT:Agg P T n) (hX:ev ρ X=.pointer (some a)) (hs:a.spot=none) (hn:vs.length=n)
  (hc:CellsAt w a vs):RunV P ρ w ⟨d,.load T X,ty,pos,after,g⟩ (.agg vs.toArray):=by
 obtain ⟨b,o,s⟩:=a
 simp only at hs; subst hs
 exact r_lda hT hX hn (fun j v hj=>hc j v hj)
theorem r_ld' {T:Nat} {X:Operand} {a:Addr} {v:Value} (hT:One P T) (hX:ev ρ X=.pointer (some a)) (hs:a.spot=none) (hc:w.cell? a=some v) :
  RunV P ρ w ⟨d,.load T X,ty,pos,after,g⟩ v:=by
 obtain ⟨b,o,s⟩:=a
 simp only at hs; subst hs
 exact r_ld hT hX hc
theorem elemA_spot (A:Option Addr) (n i:Nat):(elemA A n i).spot=none:=by cases A <;> rfl
theorem r_ia {T E n bytes:Nat} {z:Value} {X I:Operand} {A:Option Addr} {len c:Nat} {k:IntKind} {i:Int} (hT:Slc P T E n bytes z) (hX:ev ρ X=.slice A len c) (hI:ev ρ I=.int k i)
  (hA:∃ a,A=some a∧a.spot=none) (h0:0≤i) (h1:i<len):RunV P ρ w ⟨d,.indexAddr T X I,ty,pos,after,g⟩ (.pointer (some (elemA A n i.toNat))):=by
 obtain ⟨⟨b,o,s⟩,rfl,hs⟩:=hA
 simp only at hs; subst hs
 obtain ⟨hu,j,h2,h3,h4,h5⟩:=hT
 have hadd:(⟨b,o,none⟩:Addr).add (i.toNat * n)=⟨b,o + i.toNat * n,none⟩:=by unfold Addr.add; split <;> simp_all
 simp [RunV,execOp,hX,hI,Instr.indexAt,asIntOf,run_underlying hu,sizeOf,typeInfo,h2,h4,h0,h1,elemA,hadd]
end runs
end Go.Proofs.Ytpopikeebobjnaa
