/- What an entry changes of sums. -/
import Derived.Test.YthbfhgenkhkpfaaGreatMg
import Derived.Test.YthbfhgenkhkpfaaGreatSe10
import Derived.Test.YthbfhgenkhkpfaaGreatBh
import Derived.Test.YthbfhgenkhkpfaaGreatPi
import Derived.Test.YthbfhgenkhkpfaaGreatAr
namespace Go.Proofs.YthbfhgenkhkpfaaGreat
open Go Go.RowKit
set_option linter.unusedVariables false
set_option linter.unusedSimpArgs false
def cc (k:Int) (e:Ent):Nat:=bif bktE e==k then crcE e else 0
theorem xor_swap (a b s:Nat):b ^^^ s=(a ^^^ s) ^^^ (a ^^^ b):=by
 apply Nat.eq_of_testBit_eq
 intro i
 simp only [Nat.testBit_xor]
 cases a.testBit i <;> cases b.testBit i <;> cases s.testBit i <;> rfl
theorem sumB_set (k:Int) (y:Ent):∀ (l:List Ent) (i:Nat),i<l.length→sumB k (l.set i y)=sumB k l ^^^ (cc k (l.getD i default) ^^^ cc k y)
 | [],i,h=>by simp at h
 | e::l,0,h=>xor_swap (cc k e) (cc k y) (sumB k l)
 | e::l,i + 1,h=>by
  have ih:=sumB_set k y l i (by simpa using h)
  show (bif bktE e==k then crcE e else 0) ^^^ sumB k (l.set i y)=((bif bktE e==k then crcE e else 0) ^^^ sumB k l) ^^^ (cc k (l.getD i default) ^^^ cc k y)
  rw [ih,Nat.xor_assoc]
theorem sumB_snoc (k:Int) (l:List Ent) (e:Ent):sumB k (l++[e])=sumB k l ^^^ cc k e:=by rw [sumB_append]; simp [sumB,cc]
theorem bkt_name {a b:Ent} (h:nameE a b=true):bktE a=bktE b:=by
 have:=nameE_iff.1 h
 unfold bktE; rw [this.1,this.2]
theorem sumsD_ok {a:Arena} (h:arOk a=true):sumsD a=sums4 a.slots:=by unfold sumsD; rw [h]; rfl
theorem putE_len {e:Ent} (h:okE e=true):(putE e).1.length≤42:=by unfold putE; rw [h]; exact putT_len h
end Go.Proofs.YthbfhgenkhkpfaaGreat
