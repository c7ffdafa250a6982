/- DeltaWrites: an update that is joined is what is read then. -/
import Derived.Test.YthhjcijhanacnaaLh
import Derived.Test.YthhjcijhanacnaaLk
namespace Go.Proofs.Ythhjcijhanacnaa
open Go Go.RowKit
set_option linter.unusedVariables false
set_option linter.unusedSimpArgs false

theorem and_r {c:Bool} {R X:Prop} (hr:R) (hx:R→c=true→X):(c=true→X)∧(c=false→R):=⟨hx hr,fun _=>hr⟩
theorem put_join {a:Arena} {node:Int} {key text:Str} (wa:wfa a) (h:(putU a node key text).2=0) :
  (joinA a (putU a node key text).1).2=(true,0)∧textU (joinA a (putU a node key text).1).1 key=(text,true)∧WfV (putU a node key text).1.val∧sm (putU a node key text).1.val ∧
  putU a node key text=(⟨key,regD a node key false text⟩,0)∧arOk a=true∧keyD key=true∧(0≤node∧node<8)∧text.length≤8∧okV (regD a node key false text)=true∧((oldD a 1 key).2=true∨(a.slots.length:Int)<a.cap)∧J (oldD a 1 key).1 (regD a node key false text)=regD a node key false text:=by
 cases h1:mayD a node key != 0 with
 | true=>exfalso; unfold putU at h; rw [bif_ne h1] at h; rw [show mayD a node key=0 from h] at h1; simp at h1
 | false =>
  obtain ⟨ho,n0,n8,hk⟩:=may_0 h1
  cases h2:unlessD (decide ((text.length:Int)≤8)) 6 != 0 with
  | true=>exfalso; unfold putU at h; rw [bif_eq h1,bif_ne h2] at h; cases h
  | false =>
   have ht:text.length≤8:=by
    unfold unlessD at h2
    cases h4:decide ((text.length:Int)≤8) with
    | false=>rw [h4] at h2; simp at h2
    | true=>simp at h4; omega
   cases h3:roomD a 1 key != 0 with
   | true=>exfalso; unfold putU at h; rw [bif_eq h1,bif_eq h2,bif_ne h3] at h; rw [show roomD a 1 key=0 from h] at h3; simp at h3
   | false =>
    have e:putU a node key text=laterD a node key false text:=by unfold putU; rw [bif_eq h1,bif_eq h2,bif_eq h3]
    rw [e] at h ⊢
    obtain ⟨j1,j2,j3,j4⟩:=text_join (dead:=false) (text:=text) ho wa hk (room_0 h3) h n0 n8 ht (.inl rfl)
    obtain ⟨l1,l2,_,l4,_⟩:=later_0 (key:=key) (dead:=false) (text:=text) wa h n0 n8 ht (.inl rfl)
    exact ⟨j1,j2,j3,j4,l1,ho,hk,⟨n0,n8⟩,ht,l2,room_0 h3,l4⟩
end Go.Proofs.Ythhjcijhanacnaa
