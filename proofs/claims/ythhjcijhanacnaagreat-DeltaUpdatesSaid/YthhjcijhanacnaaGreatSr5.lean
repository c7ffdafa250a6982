/- DeltaUpdates: the delta of any update of any arena is just what the document says. -/
import Derived.Test.YthhjcijhanacnaaGreatGiUpdates
import Derived.Test.YthhjcijhanacnaaGreatSe10
namespace Go.Proofs.YthhjcijhanacnaaGreat
open Go Go.RowKit
set_option linter.unusedVariables false
set_option linter.unusedSimpArgs false

theorem later_sm {a:Arena} (node:Int) (key:Str) (d:Bool) (t:Str):sm (laterD a node key d t).1.val:=by
 unfold laterD
 cases (oldD a 1 key).1.time==2147483647 <;> exact ⟨Nat.zero_le _,Nat.zero_le _⟩
theorem put_sm (a:Arena) (node:Int) (key t:Str):sm (putU a node key t).1.val:=by
 unfold putU
 cases mayD a node key != 0
 ·cases unlessD (decide ((t.length:Int)≤8)) 6 != 0
  ·cases roomD a 1 key != 0
   ·exact later_sm _ _ _ _
   ·exact ⟨Nat.zero_le _,Nat.zero_le _⟩
  ·exact ⟨Nat.zero_le _,Nat.zero_le _⟩
 ·exact ⟨Nat.zero_le _,Nat.zero_le _⟩
theorem del_sm (a:Arena) (node:Int) (key:Str):sm (delU a node key).1.val:=by
 unfold delU
 cases mayD a node key != 0
 ·cases livesD a key != 0
  ·exact later_sm _ _ _ _
  ·exact ⟨Nat.zero_le _,Nat.zero_le _⟩
 ·exact ⟨Nat.zero_le _,Nat.zero_le _⟩
theorem add_sm (a:Arena) (node:Int) (key:Str) (n:Int):sm (addU a node key n).1.val:=by
 have hz:sm zeroE.val:=⟨Nat.zero_le _,Nat.zero_le _⟩
 have hs:∀ x:Int,(Z8.set node.toNat x).length≤9223372036854775807:=fun x=>by simp
 have h8:(Z8:List Int).length≤9223372036854775807:=by decide
 unfold addU
 cases mayD a node key != 0
 ·cases mostD n != 0
  ·cases roomD a 2 key != 0
   ·cases decide (n<0)
    ·cases decide (65535<plusD a node key n)
     ·exact ⟨hs _,h8⟩
     ·exact hz
    ·cases decide (65535<minusD a node key n)
     ·exact ⟨h8,hs _⟩
     ·exact hz
   ·exact hz
  ·exact hz
 ·exact hz
theorem set_sm (a:Arena) (key:Str) (f:Int):sm (setU a key f).1.val:=by
 unfold setU
 cases mayD a 0 key != 0
 ·cases roomD a 3 key != 0 <;> exact ⟨Nat.zero_le _,Nat.zero_le _⟩
 ·exact ⟨Nat.zero_le _,Nat.zero_le _⟩
theorem deltaUpdates_row (a:Arena) (node:Int) (key text:Str) (n f:Int) (g0:GArena a) (w1:inK .i64 node) (g2:shortL key) (g3:shortL text) (w4:inK .i64 n) (w5:inK .u64 f):law09_DeltaUpdates_raw a node key text n f true:=by
 refine ⟨fun h=>(by cases h),fun _=>⟨fun _=>rfl,fun f1=>?_⟩⟩
 have fa:fewA a=true:=by revert f1; cases fewA a <;> simp
 have sa:=fewA_sma fa
 refine ⟨sa,_,rfl,sa,_,rfl,sa,_,rfl,sa,_,rfl,sa,_,rfl,sa,_,rfl,sa,_,rfl,sa,_,rfl,put_sm _ _ _ _,fun _=>del_sm _ _ _,add_sm _ _ _ _,fun _=>set_sm _ _ _,?_⟩
 simp only [sameE_self,beq_self_eq_true,Bool.and_self]
end Go.Proofs.YthhjcijhanacnaaGreat
