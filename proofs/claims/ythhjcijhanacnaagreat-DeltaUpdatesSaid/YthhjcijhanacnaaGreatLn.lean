/- The references of updates are the program's. -/
import Derived.Test.YthhjcijhanacnaaGreatLm
namespace Go.Proofs.YthhjcijhanacnaaGreat
open Go Go.RowKit
set_option linter.unusedVariables false
set_option linter.unusedSimpArgs false

theorem key_ref (key:Str):(decide ((key.length:Int)<1)||decide (8<(key.length:Int)))=!keyD key:=by
 unfold keyD
 cases key with
 | nil=>rfl
 | cons x l =>
  have h1:decide ((((x::l).length:Nat):Int)<1)=false:=by simp; omega
  have h2:((x::l)==([]:Str))=false:=rfl
  rw [h1,h2]
  by_cases h:(((x::l).length:Nat):Int)≤8
  ·have a1:decide (8<(((x::l).length:Nat):Int))=false:=decide_eq_false (by omega)
   have a2:decide ((((x::l).length:Nat):Int)≤8)=true:=decide_eq_true h
   rw [a1,a2]; rfl
  ·have a1:decide (8<(((x::l).length:Nat):Int))=true:=decide_eq_true (by omega)
   have a2:decide ((((x::l).length:Nat):Int)≤8)=false:=decide_eq_false h
   rw [a1,a2]; rfl
theorem node_ref (node:Int):(decide (node<0)||decide (7<node))=(decide (node<0)||decide (8≤node)):=by
 have:decide (7<node)=decide (8≤node):=decide_eq_decide.2 ⟨fun h=>by omega,fun h=>by omega⟩
 rw [this]
theorem can_ev (a:Arena) (node:Int) (key:Str) (h:sma a):ref09_can_raw a node key (mayD a node key):=by
 refine ⟨h,fun hc=>?_,fun hc=>⟨fun hd=>?_,fun hd=>⟨fun he=>?_,fun he=>?_⟩⟩⟩
 ·unfold mayD; rw [hc]; rfl
 ·rw [node_ref] at hd; unfold mayD; rw [hc,hd]; rfl
 ·rw [node_ref] at hd; rw [key_ref] at he
  have:keyD key=false:=by simpa using he
  unfold mayD; rw [hc,hd,this]; rfl
 ·rw [node_ref] at hd; rw [key_ref] at he
  have:keyD key=true:=by simpa using he
  unfold mayD; rw [hc,hd,this]; rfl
theorem old_2 (a:Arena) (k:Int) (key:Str):(oldD a k key).2=decide (0≤findA a k key):=by
 unfold oldD
 cases decide (0≤findA a k key) <;> rfl
theorem rroom_ev (a:Arena) (k:Int) (key:Str) (h:sma a):ref09_room_raw a k key (roomD a k key==0):=by
 refine ⟨h,?_⟩
 unfold roomD unlessD
 rw [old_2]
 cases (decide (0≤findA a k key)||decide ((a.slots.length:Int)<a.cap)) <;> rfl
theorem find_neg (a:Arena) (k:Int) (key:Str):decide (findA a k key<0)=!decide (0≤findA a k key):=by
 by_cases h:0≤findA a k key
 ·rw [decide_eq_true h,decide_eq_false (by omega)]; rfl
 ·rw [decide_eq_false h,decide_eq_true (by omega)]; rfl
theorem rval_ev (a:Arena) (k:Int) (key:Str) (h:sma a):ref09_val_raw a k key (oldD a k key).1:=by
 refine ⟨h,fun hc=>⟨_,rfl,?_⟩,fun hc=>?_⟩ <;> rw [find_neg] at hc
 ·have:decide (0≤findA a k key)=false:=by simpa using hc
  unfold oldD; rw [this]; rfl
 ·have h1:decide (0≤findA a k key)=true:=by simpa using hc
  have h0:0≤findA a k key:=by simpa using h1
  refine ⟨⟨h0,(find_lt h0).2.1⟩,?_⟩
  unfold oldD; rw [h1]; rfl
theorem rreg_ev (a:Arena) (node:Int) (key:Str) (d:Bool) (t:Str) (h:sma a):ref09_reg_raw a node key d t (laterD a node key d t):=by
 refine ⟨_,rval_ev a 1 key h,fun hc=>?_,fun hc=>?_⟩
 ·unfold laterD; rw [hc]; rfl
 ·unfold laterD; rw [hc]; rfl
theorem room_eq {a:Arena} {k:Int} {key:Str}:(!(roomD a k key==0))=(roomD a k key != 0):=rfl
theorem room_4 {a:Arena} {k:Int} {key:Str} (h:(roomD a k key != 0)=true):roomD a k key=4:=by
 revert h
 unfold roomD unlessD
 cases ((oldD a k key).2||decide ((a.slots.length:Int)<a.cap)) <;> simp
theorem rput_ev (a:Arena) (node:Int) (key text:Str) (h:sma a):ref09_Put_raw a node key text (putU a node key text):=by
 have ht:(unlessD (decide ((text.length:Int)≤8)) 6 != 0)=decide (8<(text.length:Int)):=by
  unfold unlessD
  by_cases hl:(text.length:Int)≤8
  ·rw [decide_eq_true hl,decide_eq_false (by omega)]; rfl
  ·rw [decide_eq_false hl,decide_eq_true (by omega)]; rfl
 refine ⟨_,can_ev a node key h,fun hc=>?_,fun hc=>⟨fun hd=>?_,fun hd=>⟨_,rroom_ev a 1 key h,fun he=>?_,fun he=>⟨_,rreg_ev a node key false text h,?_⟩⟩⟩⟩
 ·unfold putU; rw [bif_ne hc]; rfl
 ·unfold putU; rw [bif_eq hc,ht,hd]; rfl
 ·rw [room_eq] at he; unfold putU; rw [bif_eq hc,ht,hd,bif_ne he,room_4 he]; rfl
 ·rw [room_eq] at he; unfold putU; rw [bif_eq hc,ht,hd,bif_eq he]; rfl
theorem rdel_ev (a:Arena) (node:Int) (key:Str) (h:sma a):ref09_Delete_raw a node key (delU a node key):=by
 refine ⟨_,can_ev a node key h,fun hc=>?_,fun hc=>⟨h,fun hd=>?_,fun hd=>⟨_,rval_ev a 1 key h,fun he=>?_,fun he=>⟨_,rreg_ev a node key true [] h,?_⟩⟩⟩⟩
 ·unfold delU; rw [bif_ne hc]; rfl
 ·rw [find_neg,← old_2] at hd
  have h2:(oldD a 1 key).2=false:=by simpa using hd
  have hl:livesD a key=9:=by unfold livesD unlessD; rw [h2]; rfl
  unfold delU; rw [bif_eq hc,hl]; rfl
 ·rw [find_neg,← old_2] at hd
  have h2:(oldD a 1 key).2=true:=by simpa using hd
  have hl:livesD a key=9:=by unfold livesD unlessD; rw [h2,he]; rfl
  unfold delU; rw [bif_eq hc,hl]; rfl
 ·rw [find_neg,← old_2] at hd
  have h2:(oldD a 1 key).2=true:=by simpa using hd
  have hl:livesD a key=0:=by unfold livesD unlessD; rw [h2,he]; rfl
  unfold delU; rw [bif_eq hc,hl]; rfl
theorem only_ev {node:Int} (x:Int) (n0:0≤node) (n8:node<8):ref09_only_raw node x (Z8.set node.toNat x):=⟨by decide,⟨n0,n8⟩,rfl⟩
theorem Z8_set (node:Int):Z8.set node.toNat 0=Z8:=by
 apply List.ext_getElem
 ·simp
 ·intro i h1 h2
  rw [List.getElem_set]
  by_cases h:node.toNat=i
  ·rw [if_pos h]; simp
  ·rw [if_neg h]
theorem radd_ev (a:Arena) (node:Int) (key:Str) (n:Int) (h:sma a):ref09_Add_raw a node key n (addU a node key n):=by
 have hn:(mostD n != 0)=((n==0)||decide (65535<n)||decide (n<(-65535:Int))):=by
  unfold mostD unlessD
  by_cases h1:n=0
  ·subst h1; rfl
  ·have e1:(n==0)=false:=by simpa using h1
   have e2:(n != (0:Int))=true:=by simpa using h1
   rw [e1,e2]
   by_cases h2:n≤65535
   ·rw [decide_eq_true h2,decide_eq_false (show ¬ (65535:Int)<n by omega)]
    by_cases h3 : -65535≤n
    ·rw [decide_eq_true h3,decide_eq_false (show ¬ n<(-65535:Int) by omega)]; rfl
    ·rw [decide_eq_false h3,decide_eq_true (show n<(-65535:Int) by omega)]; rfl
   ·rw [decide_eq_false h2,decide_eq_true (show (65535:Int)<n by omega)]; rfl
 refine ⟨_,can_ev a node key h,fun hc=>?_,fun hc=>⟨fun hd=>?_,fun hd=>⟨_,rroom_ev a 2 key h,fun he=>?_,fun he=>⟨_,rval_ev a 2 key h,fun hp=>?_,fun hp=>?_⟩⟩⟩⟩
 ·unfold addU; rw [bif_ne hc]; rfl
 ·have hm:=hn.trans hd
  have h1:mostD n=1:=by
   revert hm; unfold mostD unlessD
   cases (((n != 0)&&decide (n≤65535))&&decide (-65535≤n)) <;> simp
  unfold addU; rw [bif_eq hc,bif_ne hm,h1]; rfl
 ·rw [room_eq] at he
  unfold addU; rw [bif_eq hc,bif_eq (hn.trans hd),bif_ne he,room_4 he]; rfl
 ·rw [room_eq] at he
  obtain ⟨ho,n0,n8,_⟩:=may_0 hc
  obtain ⟨p8,m8⟩:=old_8 (key:=key) ho
  have hpos:0<n:=by simpa using hp
  have hng:decide (n<0)=false:=by simp; omega
  refine ⟨⟨n0,by rw [p8]; exact n8⟩,fun hq=>?_,fun hq=>⟨_,only_ev _ n0 n8,_,only_ev _ n0 n8,?_⟩⟩ <;> unfold addU <;> rw [bif_eq hc,bif_eq (hn.trans hd),bif_eq he,hng,cond_false]
  ·rw [Bool.or_false] at hq; rw [show decide (65535<plusD a node key n)=true from hq]; rfl
  ·rw [Bool.or_false] at hq; rw [show decide (65535<plusD a node key n)=false from hq,Z8_set]; rfl
 ·rw [room_eq] at he
  obtain ⟨ho,n0,n8,_⟩:=may_0 hc
  obtain ⟨p8,m8⟩:=old_8 (key:=key) ho
  have hb:n≠0∧-65535≤n:=by
   simp only [Bool.or_eq_false_iff,decide_eq_false_iff_not,beq_eq_false_iff_ne] at hd
   omega
  have hneg:decide (n<0)=true:=by simp at hp ⊢; omega
  have em:minusD a node key n=IntKind.i64.wrap (nth (oldD a 2 key).1.minus node - n):=by
   unfold minusD
   have:n≤0:=by simp at hp; omega
   rw [wrap64 (n:=0 - n) (by omega) (by omega)]
   congr 1; omega
  refine ⟨⟨n0,by rw [m8]; exact n8⟩,fun hq=>?_,fun hq=>⟨_,only_ev _ n0 n8,_,only_ev _ n0 n8,?_⟩⟩ <;> unfold addU <;> rw [bif_eq hc,bif_eq (hn.trans hd),bif_eq he,hneg,cond_true,em]
  ·rw [hq]; rfl
  ·rw [hq,Z8_set]; rfl
theorem rset_ev (a:Arena) (key:Str) (f:Int) (h:sma a):ref09_Set_raw a key f (setU a key f):=by
 refine ⟨_,can_ev a 0 key h,fun hc=>?_,fun hc=>⟨_,rroom_ev a 3 key h,fun he=>?_,fun he=>?_⟩⟩
 ·unfold setU; rw [bif_ne hc]; rfl
 ·rw [room_eq] at he; unfold setU; rw [bif_eq hc,bif_ne he,room_4 he]; rfl
 ·rw [room_eq] at he; unfold setU; rw [bif_eq hc,bif_eq he]; rfl
end Go.Proofs.YthhjcijhanacnaaGreat
