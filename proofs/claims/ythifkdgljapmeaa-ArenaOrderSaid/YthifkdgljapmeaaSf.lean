/- The arguments of a row, opened: what lies in memory is data; and a law's contract as the row asks for it. -/
import Derived.Test.YthifkdgljapmeaaSl
import Derived.ProofKit
import Derived.WalkKit
import Derived.OpenShut
import Derived.ChangeOld
import Derived.Below
import Derived.Deep.Slices
namespace Go.Proofs.Ythifkdgljapmeaa
open Go Go.ChangeShapes Go.WideShapes Go.ChangeAt Go.RowKit Go.Deep
set_option linter.unusedVariables false
set_option linter.unusedSimpArgs false

/-- What is read at type t is of kind k, and G holds of it. -/
def Opens {T : Type} (P : Program) (t : TypeId) (k : Kd T) (G : T → Prop) : Prop :=
  ∀ (H : Type) (enc : TypeId × Value → H) (w : World) (base : Nat) (spare : Nat → Bool) (held : Bool) (fuel : Nat) (cs : List Value) (x : DataW H × List MemPlace),
    DataW.trod enc P w base spare held fuel t cs = some x → ∃ d, cs.length = k.n ∧ G d ∧ Stb [] w (fun w => k.r w cs d)
def inK (k:IntKind) (n:Int):Prop:=(Lit.int k n).wf=true
theorem inK_i64 {n:Int} (h:inK .i64 n):inI n:=by
 have h:(decide (IntKind.i64.min≤n)&&decide (n≤IntKind.i64.max))=true:=h
 simp only [Bool.and_eq_true,decide_eq_true_eq] at h
 have e1:IntKind.i64.min=-9223372036854775808:=by decide
 have e2:IntKind.i64.max=9223372036854775807:=by decide
 rw [e1,e2] at h; unfold inI; omega
theorem inK_u64 {n:Int} (h:inK .u64 n):inU n:=by
 have h:(decide (IntKind.u64.min≤n)&&decide (n≤IntKind.u64.max))=true:=h
 simp only [Bool.and_eq_true,decide_eq_true_eq] at h
 have e1:IntKind.u64.min=0:=by decide
 have e2:IntKind.u64.max=18446744073709551615:=by decide
 rw [e1,e2] at h; unfold inU; omega
section
variable {P : Program} {t e : TypeId}
theorem opens_int {k:IntKind} (ht:P.underlying t=some (.int k)):Opens P t (kI k) (inK k):=fun H enc w base spare held fuel cs x h=>by
 obtain ⟨n,rfl,_,hw⟩:=DataW.trod_int ht h
 exact ⟨n,rfl,hw,fun _ _=>rfl⟩
theorem opens_bool (ht:P.underlying t=some .bool):Opens P t kB (fun _=>True):=fun H enc w base spare held fuel cs x h=>by
 obtain ⟨n,rfl,_⟩:=DataW.trod_bool ht h
 exact ⟨n,rfl,trivial,fun _ _=>rfl⟩
def shortL {T:Type} (l:List T):Prop:=l.length≤9223372036854775807
theorem opens_str (ht:P.underlying t=some .string):Opens P t kS shortL:=fun H enc w base spare held fuel cs x h=>by
 obtain ⟨s,rfl,_,hs⟩:=DataW.trod_string ht h
 exact ⟨s.data.toList,rfl,by simpa [shortL,maxLen] using hs,fun _ _=>by simp [kS,str]⟩
theorem add_none {a:Addr} (h:a.spot=none) (j:Nat):a.add j=⟨a.block,a.off + j,none⟩:=by
 obtain ⟨b,o,s⟩:=a
 simp only at h; subst h
 unfold Addr.add; split <;> simp_all
theorem opens_slice {T:Type} [Inhabited T] {k:Kd T} (ht:P.underlying t=some (.slice e)) {G:T→Prop} (he:Opens P e k G) (hc:P.cellsOf e=k.n) (hp:0<k.n):Opens P t (kSl k) (fun l=>shortL l∧∀ x∈l,G x):=fun H enc w base spare held fuel cs x h=>by
 rcases open_slice ht h with ⟨rfl,_⟩ | ⟨a,len,cap,m,n,D,Pl,rfl,hb,hl,hm,hmm,_,hx⟩
 ·exact ⟨[],rfl,⟨Nat.zero_le _,fun x hx=>by cases hx⟩,fun w' _=>⟨none,0,rfl,SlC.nil _ _ _ _⟩⟩
 ·have hlm:len≤m:=by rw [hmm]; split <;> omega
  rw [hc] at hx
  have hex:∀ i,i<len→∃ d:T,∃ cs',w.cells? base (a.add (i * k.n)) k.n=some cs'∧cs'.length=k.n∧G d∧Stb [] w (fun w=>k.r w cs' d):=fun i hi=>by
   obtain ⟨cs',h1,h2⟩:=hx i (by omega)
   obtain ⟨d,h3,hG,h4⟩:=he H enc w base spare held n cs' _ h2
   exact ⟨d,cs',h1,h3,hG,h4⟩
  obtain ⟨f,hf⟩:=choose_lt hex
  refine ⟨(List.range len).map f,rfl,⟨by simp only [maxLen] at hm; simp only [shortL,List.length_map,List.length_range]; omega,fun x hx=>by
   obtain ⟨i,hi,rfl⟩:=List.mem_map.1 hx
   obtain ⟨_,_,_,hG,_⟩:=hf i (by simpa using hi)
   exact hG⟩,fun w' ha=>⟨some a,cap,by simp,by simpa using hl,fun i hi=>?_⟩⟩
  have hi':i<len:=by simpa using hi
  obtain ⟨cs',h1,h2,_,h3⟩:=hf i hi'
  obtain ⟨_,hl1,hcell⟩:=World.cells?_some h1
  have hs':a.spot=none:=by
   obtain ⟨cs0,g1,g2,_⟩:=hf 0 (by omega)
   obtain ⟨_,_,gc⟩:=World.cells?_some g1
   have e0:(a.add (0 * k.n)).add 0=a:=by rw [Nat.zero_mul]; unfold Addr.add; cases a.spot <;> simp
   have h0:w.cell? a=some (cs0[0]'(by omega)):=by have:=gc 0 (by omega); rw [e0] at this; rw [this]; simp
   exact World.cell?_spot h0
  have hs:(a.add (i * k.n)).spot=none:=by rw [add_none hs']
  refine ⟨⟨a,rfl,hs'⟩,cs',h2,fun j v hj=>?_,?_⟩
  ·have hj':j<cs'.length:=(List.getElem?_eq_some_iff.1 hj).1
   have h5:w.cell? ((a.add (i * k.n)).add j)=some v:=by rw [hcell j (by omega)]; exact hj
   rw [add_none hs,add_none hs'] at h5
   have hblk:a.block<w.heap.size:=by
    unfold World.cell? at h5
    cases hb:w.heap[a.block]? with
    | none=>rw [hb] at h5; cases h5
    | some o=>exact (Array.getElem?_eq_some_iff.1 hb).1
   have:w'.cell? (ad (elemA (some a) k.n i) j)=w.cell? (ad (elemA (some a) k.n i) j):=World.cell?_of_block (ha a.block hblk (by simp))
   rw [this]; exact h5
  ·have:=h3 w' ha
   simpa [hi'] using this
/-- A struct's field. -/
theorem trod_field {H : Type} {enc : TypeId × Value → H} {w : World} {base : Nat} {spare : Nat → Bool} {held : Bool} {fuel : Nat} {cs : List Value} {x : DataW H × List MemPlace} {fs : Array Field} (ht : P.underlying t = some (.struct fs))
    (h : DataW.trod enc P w base spare held fuel t cs = some x) {T : Type} {k : Kd T} {G : T → Prop} (i : Nat) {f : Field} (hf : fs[i]? = some f) (hk : Opens P f.type k G) {o : Nat} (ho : f.offset = o) (hc : P.cellsOf f.type = k.n) :
    ∃ d, ((cs.drop o).take k.n).length = k.n ∧ G d ∧ Stb [] w (fun w => k.r w ((cs.drop o).take k.n) d) := by
  obtain ⟨xs, n, _, _, _, hl, hx⟩ := DataW.trod_struct ht h
  have h1 := hx i f hf
  have hi : i < xs.length := by rw [hl]; exact (Array.getElem?_eq_some_iff.1 hf).1
  rw [List.getElem?_eq_getElem hi, ho, hc] at h1
  exact hk H enc w base spare held n _ _ h1
theorem trod_len {H:Type} {enc:TypeId × Value→H} {w:World} {base:Nat} {spare:Nat→Bool} {held:Bool} {fuel:Nat} {cs:List Value} {x:DataW H × List MemPlace} {fs:Array Field} (ht:P.underlying t=some (.struct fs))
  (h:DataW.trod enc P w base spare held fuel t cs=some x):cs.length=P.cellsOf t:=by
 obtain ⟨xs,n,_,_,hl,_⟩:=DataW.trod_struct ht h
 exact hl
end

abbrev GInts (l:List Int):Prop:=shortL l∧∀ x∈l,inK .i64 x
theorem opens_ints:Opens Try.prog 23 (kSl (kI .i64)) GInts:=opens_slice un_s_int (opens_int un_int) (by kernel_rfl) (by decide)
def GVal (v:Val):Prop:=WfV v∧shortL v.text∧shortL v.plus∧shortL v.minus
theorem opens_Val:Opens Try.prog 40 kVal GVal:=fun H enc w base spare held fuel cs x h=>by
 have hu:=Try.underlying40
 have hl:cs.length=8:=(trod_len hu h).trans (by kernel_rfl)
 obtain ⟨c0,c1,c2,c3,c4,c5,c6,c7,rfl⟩:∃ c0 c1 c2 c3 c4 c5 c6 c7,cs=[c0,c1,c2,c3,c4,c5,c6,c7]:=by
  match cs,hl with
  | [c0,c1,c2,c3,c4,c5,c6,c7],_=>exact ⟨_,_,_,_,_,_,_,_,rfl⟩
 obtain ⟨d0,_,g0,h0⟩:=trod_field hu h (k:=kI .i64) 0 rfl (opens_int un_int) (o:=0) rfl (by kernel_rfl)
 obtain ⟨d1,_,g1,h1⟩:=trod_field hu h (k:=kI .i64) 1 rfl (opens_int un_int) (o:=1) rfl (by kernel_rfl)
 obtain ⟨d2,_,g2,h2⟩:=trod_field hu h (k:=kI .i64) 2 rfl (opens_int un_int) (o:=2) rfl (by kernel_rfl)
 obtain ⟨d3,_,g3,h3⟩:=trod_field hu h (k:=kB) 3 rfl (opens_bool un_bool) (o:=3) rfl (by kernel_rfl)
 obtain ⟨d4,_,g4,h4⟩:=trod_field hu h (k:=kS) 4 rfl (opens_str un_string) (o:=4) rfl (by kernel_rfl)
 obtain ⟨d5,_,g5,h5⟩:=trod_field hu h (k:=kSl (kI .i64)) 5 rfl (opens_ints) (o:=5) rfl (by kernel_rfl)
 obtain ⟨d6,_,g6,h6⟩:=trod_field hu h (k:=kSl (kI .i64)) 6 rfl (opens_ints) (o:=6) rfl (by kernel_rfl)
 obtain ⟨d7,_,g7,h7⟩:=trod_field hu h (k:=kI .u64) 7 rfl (opens_int un_uint64) (o:=7) rfl (by kernel_rfl)
 obtain rfl:c0=.int .i64 d0:=by have:=h0.now; simpa [kI] using this
 obtain rfl:c1=.int .i64 d1:=by have:=h1.now; simpa [kI] using this
 obtain rfl:c2=.int .i64 d2:=by have:=h2.now; simpa [kI] using this
 obtain rfl:c3=.bool d3:=by have:=h3.now; simpa [kB] using this
 obtain rfl:c4=str d4:=by have:=h4.now; simpa [kS] using this
 obtain ⟨A5,q5,rfl,s5⟩:=Stb.sl (v:=c5) (k:=kI .i64) (d:=d5) (by simpa [kSl] using h5)
 obtain ⟨A6,q6,rfl,s6⟩:=Stb.sl (v:=c6) (k:=kI .i64) (d:=d6) (by simpa [kSl] using h6)
 obtain rfl:c7=.int .u64 d7:=by have:=h7.now; simpa [kI] using this
 exact ⟨⟨d0,d1,d2,d3,d4,d5,d6,d7⟩,rfl,⟨⟨inK_i64 g0,inK_i64 g1,inK_i64 g2,fun x hx=>inK_i64 (g5.2 x hx),fun x hx=>inK_i64 (g6.2 x hx),inK_u64 g7⟩,g4,g5.1,g6.1⟩,kVal_mk (d:=⟨d0,d1,d2,d3,d4,d5,d6,d7⟩) s5 s6⟩
/-- A law's contract, as the row asks for it. -/
theorem law_any {P : Program} {f : FuncId} {args : Array Value} {W : World} (h : Calls P f args W (Ret fun v w' => Ext W w' ∧ v = .bool true)) : Calls P f args W fun e w' => e = .returned (.bool true) ∧ Below W.heap.size W w' :=
  h.mono fun e w' ⟨v, he, hx, hv⟩ => by subst hv; exact ⟨he, hx.below⟩
theorem lt_nil (W:World):Lt [] W:=fun m hm=>by cases hm
end Go.Proofs.Ythifkdgljapmeaa
