/- What an entry changes of sums. -/
import Derived.Test.YthbfhgenkhkpfaaGreatMg
import Derived.Test.YthbfhgenkhkpfaaGreatSe10
import Derived.Test.YthbfhgenkhkpfaaGreatBh
import Derived.Test.YthbfhgenkhkpfaaGreatPi
import Derived.Test.YthbfhgenkhkpfaaGreatAr
namespace Go.Proofs.YthbfhgenkhkpfaaGreat
open Go Go.RowKit
set_option linter.unusedVariables false
set_option linter.unusedSimpArgs false
def cc (k:Int) (e:Ent):Nat:=bif bktE e==k then crcE e else 0
theorem xor_swap (a b s:Nat):b ^^^ s=(a ^^^ s) ^^^ (a ^^^ b):=by
 apply Nat.eq_of_testBit_eq
 intro i
 simp only [Nat.testBit_xor]
 cases a.testBit i <;> cases b.testBit i <;> cases s.testBit i <;> rfl
theorem sumB_set (k:Int) (y:Ent):∀ (l:List Ent) (i:Nat),i<l.length→sumB k (l.set i y)=sumB k l ^^^ (cc k (l.getD i default) ^^^ cc k y)
 | [],i,h=>by simp at h
 | e::l,0,h=>xor_swap (cc k e) (cc k y) (sumB k l)
 | e::l,i + 1,h=>by
  have ih:=sumB_set k y l i (by simpa using h)
  show (bif bktE e==k then crcE e else 0) ^^^ sumB k (l.set i y)=((bif bktE e==k then crcE e else 0) ^^^ sumB k l) ^^^ (cc k (l.getD i default) ^^^ cc k y)
  rw [ih,Nat.xor_assoc]
theorem sumB_snoc (k:Int) (l:List Ent) (e:Ent):sumB k (l++[e])=sumB k l ^^^ cc k e:=by rw [sumB_append]; simp [sumB,cc]
theorem bkt_name {a b:Ent} (h:nameE a b=true):bktE a=bktE b:=by
 have:=nameE_iff.1 h
 unfold bktE; rw [this.1,this.2]
theorem sumsD_ok {a:Arena} (h:arOk a=true):sumsD a=sums4 a.slots:=by unfold sumsD; rw [h]; rfl
/-- One of four numbers, with more within it. -/
theorem xset (f : Nat → Nat) (hf : ∀ j, f j < 4294967296) {b c v : Int} {n : Nat} (hc : c = (n : Int)) (hn : n < 4294967296) (hb : b = 0 ∨ b = 1 ∨ b = 2 ∨ b = 3) {x0 x1 x2 x3 : Int} (e0 : x0 = (f 0 : Int)) (e1 : x1 = (f 1 : Int)) (e2 : x2 = (f 2 : Int)) (e3 : x3 = (f 3 : Int)) (hv : v = (f b.toNat : Int)) (j : Nat) (hj : j < 4) :
    nth (([x0, x1, x2, x3] : List Int).set b.toNat (IntKind.i64.wrap ((BitVec.ofInt IntKind.i64.bits v ^^^ BitVec.ofInt IntKind.i64.bits c).toNat : Int))) (j : Int) = ((if (j : Int) = b then f j ^^^ n else f j : Nat) : Int) := by
  subst hc e0 e1 e2 e3 hv
  have hj4 : j = 0 ∨ j = 1 ∨ j = 2 ∨ j = 3 := by omega
  rcases hb with rfl | rfl | rfl | rfl <;> rcases hj4 with rfl | rfl | rfl | rfl <;>
    first
      | (rw [if_pos (by rfl)]; exact xor64 (hf _) hn)
      | (rw [if_neg (by decide)]; rfl)
theorem getD_set_at {l:List Ent} {i:Nat} {y:Ent} (h:i<l.length):(l.set i y).getD i default=y:=by simp [h]
theorem putE_len {e:Ent} (h:okE e=true):(putE e).1.length≤42:=by unfold putE; rw [h]; exact putT_len h
end Go.Proofs.YthbfhgenkhkpfaaGreat
