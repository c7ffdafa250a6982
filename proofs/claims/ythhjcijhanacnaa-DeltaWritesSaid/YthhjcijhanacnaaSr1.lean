/- DeltaWrites: an update that is joined is what is read then. -/
import Derived.Test.YthhjcijhanacnaaGiWrites
import Derived.Test.YthhjcijhanacnaaLk
namespace Go.Proofs.Ythhjcijhanacnaa
open Go Go.RowKit
set_option linter.unusedVariables false
set_option linter.unusedSimpArgs false

theorem and_r {c:Bool} {R X:Prop} (hr:R) (hx:R→c=true→X):(c=true→X)∧(c=false→R):=⟨hx hr,fun _=>hr⟩
theorem put_join {a:Arena} {node:Int} {key text:Str} (wa:wfa a) (h:(putU a node key text).2=0) :
  (joinA a (putU a node key text).1).2=(true,0)∧textU (joinA a (putU a node key text).1).1 key=(text,true)∧WfV (putU a node key text).1.val∧sm (putU a node key text).1.val ∧
  putU a node key text=(⟨key,regD a node key false text⟩,0)∧arOk a=true∧keyD key=true∧(0≤node∧node<8)∧text.length≤8∧okV (regD a node key false text)=true∧((oldD a 1 key).2=true∨(a.slots.length:Int)<a.cap)∧J (oldD a 1 key).1 (regD a node key false text)=regD a node key false text:=by
 cases h1:mayD a node key != 0 with
 | true=>exfalso; unfold putU at h; rw [bif_ne h1] at h; rw [show mayD a node key=0 from h] at h1; simp at h1
 | false =>
  obtain ⟨ho,n0,n8,hk⟩:=may_0 h1
  cases h2:unlessD (decide ((text.length:Int)≤8)) 6 != 0 with
  | true=>exfalso; unfold putU at h; rw [bif_eq h1,bif_ne h2] at h; cases h
  | false =>
   have ht:text.length≤8:=by
    unfold unlessD at h2
    cases h4:decide ((text.length:Int)≤8) with
    | false=>rw [h4] at h2; simp at h2
    | true=>simp at h4; omega
   cases h3:roomD a 1 key != 0 with
   | true=>exfalso; unfold putU at h; rw [bif_eq h1,bif_eq h2,bif_ne h3] at h; rw [show roomD a 1 key=0 from h] at h3; simp at h3
   | false =>
    have e:putU a node key text=laterD a node key false text:=by unfold putU; rw [bif_eq h1,bif_eq h2,bif_eq h3]
    rw [e] at h ⊢
    obtain ⟨j1,j2,j3,j4⟩:=text_join (dead:=false) (text:=text) ho wa hk (room_0 h3) h n0 n8 ht (.inl rfl)
    obtain ⟨l1,l2,_,l4,_⟩:=later_0 (key:=key) (dead:=false) (text:=text) wa h n0 n8 ht (.inl rfl)
    exact ⟨j1,j2,j3,j4,l1,ho,hk,⟨n0,n8⟩,ht,l2,room_0 h3,l4⟩
theorem del_join {a:Arena} {node:Int} {key:Str} (wa:wfa a) (h:(delU a node key).2=0) :
  (joinA a (delU a node key).1).2=(true,0)∧textU (joinA a (delU a node key).1).1 key=([],false)∧WfV (delU a node key).1.val∧sm (delU a node key).1.val:=by
 cases h1:mayD a node key != 0 with
 | true=>exfalso; unfold delU at h; rw [bif_ne h1] at h; rw [show mayD a node key=0 from h] at h1; simp at h1
 | false =>
  obtain ⟨ho,n0,n8,hk⟩:=may_0 h1
  cases h2:livesD a key != 0 with
  | true=>exfalso; unfold delU at h; rw [bif_eq h1,bif_ne h2] at h; rw [show livesD a key=0 from h] at h2; simp at h2
  | false =>
   have hf:(oldD a 1 key).2=true:=by
    unfold livesD unlessD at h2
    cases h4:(oldD a 1 key).2 with
    | false=>rw [h4] at h2; simp at h2
    | true=>rfl
   have e:delU a node key=laterD a node key true []:=by unfold delU; rw [bif_eq h1,bif_eq h2]
   rw [e] at h ⊢
   exact text_join (dead:=true) (text:=[]) ho wa hk (.inl hf) h n0 n8 (by simp) (.inr rfl)
theorem deltaWrites_ev (a:Arena) (node:Int) (key text:Str) (n f:Int) (ga:GArena a) (hf:inU f):law09_DeltaWrites_raw a node key text n f true:=by
 refine ⟨fun h=>(by cases h),fun _=>⟨fun _=>rfl,fun f1=>?_⟩⟩
 have fa:fewA a=true:=by revert f1; cases fewA a <;> simp
 have sa:=fewA_sma fa
 have wa:wfa a:=wfl_of ga.2.1
 refine ⟨sa,_,rfl,and_r ?_ (fun hr hc=>?_)⟩
 rotate_left
 ·obtain ⟨j1,j2,j3,j4,_⟩:=put_join (text:=text) wa (by simpa using hc)
  have e1:=congrArg Prod.fst j1
  have e2:=congrArg Prod.snd j1
  refine ⟨sa,j4,j3,_,rfl,sma_join sa j4,_,rfl,fun bad=>?_,fun _=>hr⟩
  simp [e1,e2,j2] at bad
 refine ⟨sa,_,rfl,and_r ?_ (fun hr hc=>?_)⟩
 rotate_left
 ·obtain ⟨j1,j2,j3,j4⟩:=del_join wa (by simpa using hc)
  have e1:=congrArg Prod.fst j1
  have e2:=congrArg Prod.snd j1
  refine ⟨sa,j4,j3,_,rfl,sma_join sa j4,_,rfl,fun bad=>?_,fun _=>hr⟩
  simp [e1,e2,j2] at bad
 refine ⟨sa,_,rfl,and_r ?_ (fun hr hc=>?_)⟩
 rotate_left
 ·obtain ⟨j1,j2,j3,j4,_⟩:=add_join wa (show (addU a node key n).2=0 by simpa using hc)
  have hn:=(add_0 wa (show (addU a node key n).2=0 by simpa using hc)).2.2.2.2.1
  have e1:=congrArg Prod.fst j1
  have e2:=congrArg Prod.snd j1
  have hb:=sumU_bound wa key
  have hw:IntKind.i64.wrap ((sumU a key).1 + n)=(sumU a key).1 + n:=wrap64 (by omega) (by omega)
  refine ⟨sa,j4,j3,_,rfl,sa,_,rfl,sma_join sa j4,_,rfl,fun bad=>?_,fun _=>hr⟩
  rw [hw] at bad
  simp [e1,e2,j2] at bad
 refine ⟨sa,_,rfl,fun hc=>?_,fun _=>rfl⟩
 obtain ⟨j1,j2,j3,j4,_⟩:=set_join wa hf (show (setU a key f).2=0 by simpa using hc)
 refine ⟨sa,j4,j3,_,rfl,sa,_,rfl,sma_join sa j4,_,rfl,fun bad=>?_,fun _=>rfl⟩
 rw [j1,j2] at bad
 unfold orF at bad
 simp at bad
theorem deltaWrites_row (a:Arena) (node:Int) (key text:Str) (n f:Int) (g0:GArena a) (w1:inK .i64 node) (g2:shortL key) (g3:shortL text) (w4:inK .i64 n) (w5:inK .u64 f):law09_DeltaWrites_raw a node key text n f true:=deltaWrites_ev a node key text n f g0 (inK_u64 w5)
end Go.Proofs.Ythhjcijhanacnaa
