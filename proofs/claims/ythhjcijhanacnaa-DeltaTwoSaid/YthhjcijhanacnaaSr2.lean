/- DeltaTwo: two nodes that count apart count together. -/
import Derived.Test.YthhjcijhanacnaaGiTwo
import Derived.Test.YthhjcijhanacnaaSr1
namespace Go.Proofs.Ythhjcijhanacnaa
open Go Go.RowKit
set_option linter.unusedVariables false
set_option linter.unusedSimpArgs false

theorem add_same {a b:Arena} {node:Int} {key:Str} {n:Int} (wa:wfa a) (h:(addU a node key n).2=0) (hb:arOk b=true) (hf:(oldD b 2 key).2=true)
  (hp:nth (oldD b 2 key).1.plus node=nth (oldD a 2 key).1.plus node) (hm:nth (oldD b 2 key).1.minus node=nth (oldD a 2 key).1.minus node):addU b node key n=addU a node key n:=by
 obtain ⟨ho,⟨n0,n8⟩,hk,hr,hn,_⟩:=add_0 wa h
 have e1:mayD a node key=0:=by
  unfold mayD unlessD
  rw [ho,hk]
  have:(decide (node<0)||decide (8≤node))=false:=by simp; omega
  rw [this]; rfl
 have e2:mayD b node key=0:=by
  unfold mayD unlessD
  rw [hb,hk]
  have:(decide (node<0)||decide (8≤node))=false:=by simp; omega
  rw [this]; rfl
 have e3:roomD a 2 key=0:=by
  unfold roomD unlessD
  rcases hr with h1 | h1
  ·rw [h1]; rfl
  ·have:decide ((a.slots.length:Int)<a.cap)=true:=by simpa using h1
   rw [this]; simp
 have e4:roomD b 2 key=0:=by unfold roomD unlessD; rw [hf]; rfl
 unfold addU minusD plusD
 rw [e1,e2,e3,e4,hp,hm]
theorem merge2 {a:Arena} {x y:Ent} (h1:(joinA a x).2.2=0) (h2:(joinA (joinA a x).1 y).2.2=0):(mergeA a [x,y]).1=(joinA (joinA a x).1 y).1∧(mergeA a [x,y]).2.2=0:=by
 unfold mergeA
 refine ⟨rfl,?_⟩
 show (bif (joinA (joinA a x).1 y).2.2 != 0 then (bif (joinA a x).2.2 != 0 then (0:Int) + 1 else 0) + 1 else (bif (joinA a x).2.2 != 0 then (0:Int) + 1 else 0))=0
 rw [h1,h2]; rfl
theorem sml2 {x y:Ent} (h1:sm x.val) (h2:sm y.val):sml [x,y]:=⟨by simp,fun e he=>by
 rcases List.mem_cons.1 he with rfl | he
 ·exact h1
 ·rw [List.mem_singleton] at he; rw [he]; exact h2⟩
theorem wfl2 {x y:Ent} (h1:WfV x.val) (h2:WfV y.val):wfl [x,y]:=fun e he=>by
 rcases List.mem_cons.1 he with rfl | he
 ·exact h1
 ·rw [List.mem_singleton] at he; rw [he]; exact h2
theorem deltaTwo_ev (a:Arena) (p q:Int) (key:Str) (n m:Int) (s t:Str) (ga:GArena a):law09_DeltaTwo_raw a p q key n m s t true:=by
 refine ⟨fun h=>(by cases h),fun _=>⟨fun _=>rfl,fun f1=>?_⟩⟩
 have fa:fewA a=true:=by revert f1; cases fewA a <;> simp
 have hlt:Int.tmod (IntKind.i64.wrap p) (8:Int)<Int.tmod (IntKind.i64.wrap q) (8:Int):=by
  cases hc:decide (Int.tmod (IntKind.i64.wrap q) (8:Int)≤Int.tmod (IntKind.i64.wrap p) (8:Int)) with
  | true=>rw [hc] at f1; simp at f1
  | false=>simpa using hc
 revert hlt
 generalize Int.tmod (IntKind.i64.wrap p) (8:Int)=one
 generalize Int.tmod (IntKind.i64.wrap q) (8:Int)=two
 intro hlt
 have sa:=fewA_sma fa
 have wa:wfa a:=wfl_of ga.2.1
 refine ⟨sa,_,rfl,sa,_,rfl,and_r ?_ (fun hr hc=>?_)⟩
 rotate_left
 ·have hc1:(addU a one key n).2=0:=by revert hc; cases h1:(addU a one key n).2==0 <;> simp_all
  have hc2:(addU a two key m).2=0:=by revert hc; cases h1:(addU a two key m).2==0 <;> simp_all
  obtain ⟨x1,x2,x3,x4,x5,x6,x7,x8,x9⟩:=add_join wa hc1
  obtain ⟨_,_,y3,y4,_,_,_,_,_⟩:=add_join wa hc2
  have hn:=(add_0 wa hc1).2.2.2.2.1
  have hm:=(add_0 wa hc2).2.2.2.2.1
  obtain ⟨t0,t8⟩:=(add_0 wa hc2).2.1
  have hob:=join_arOk (addU a one key n).1 (add_0 wa hc1).1
  have wb:=join_wfa wa x3
  obtain ⟨s1,s2⟩:=x9 two t0 t8 (by omega)
  have hs:=add_same wa hc2 hob x8 s1 s2
  obtain ⟨z1,z2,_⟩:=add_join (a:=(joinA a (addU a one key n).1).1) (node:=two) (key:=key) (n:=m) wb (by rw [hs]; exact hc2)
  rw [hs] at z1 z2
  obtain ⟨m1,m2⟩:=merge2 (congrArg Prod.snd x1) (congrArg Prod.snd z1)
  have hb:=sumU_bound wa key
  have hw:IntKind.i64.wrap (IntKind.i64.wrap ((sumU a key).1 + n) + m)=(sumU a key).1 + n + m:=by rw [wrap64 (n:=(sumU a key).1 + n) (by omega) (by omega),wrap64 (by omega) (by omega)]
  refine ⟨sa,sml2 x4 y4,wfl2 x3 y3,_,rfl,sa,_,rfl,sma_merge sa (sml2 x4 y4),_,rfl,fun bad=>?_,fun _=>hr⟩
  rw [m1,m2,hw,z2,x2] at bad
  simp at bad
 ·refine ⟨sa,_,rfl,sa,_,rfl,fun _=>rfl,fun hc=>?_⟩
  have hc1:(putU a one key s).2=0:=by revert hc; cases h1:(putU a one key s).2 != 0 <;> simp_all
  have hc2:(putU a two key t).2=0:=by revert hc; cases h1:(putU a two key t).2 != 0 <;> simp_all
  obtain ⟨_,_,v3,v4,v5,ho,hk,⟨o0,o8⟩,vl,vok,hr,vJ⟩:=put_join wa hc1
  obtain ⟨_,_,w3,w4,w5,_,_,⟨t0,t8⟩,wl,wok,_,wJ⟩:=put_join wa hc2
  rw [v5] at v3 v4
  rw [w5] at w3 w4
  have he1:okE (⟨key,regD a one key false s⟩:Ent)=true:=okE_ent (k:=1) (v:=regD a one key false s) hk vok
  have he2:okE (⟨key,regD a two key false t⟩:Ent)=true:=okE_ent (k:=1) (v:=regD a two key false t) hk wok
  obtain ⟨j1,j2,_⟩:=old_join (e:=⟨key,regD a two key false t⟩) ho wa he2 w3 hr
  have j2':oldD (joinA a ⟨key,regD a two key false t⟩).1 1 key=(regD a two key false t,true):=by
   have:oldD (joinA a ⟨key,regD a two key false t⟩).1 1 key=(J (oldD a 1 key).1 (regD a two key false t),true):=j2
   rw [this,wJ]
  have hob:=join_arOk (⟨key,regD a two key false t⟩:Ent) ho
  have wb:=join_wfa wa w3
  obtain ⟨k1,k2,_⟩:=old_join (a:=(joinA a ⟨key,regD a two key false t⟩).1) (e:=⟨key,regD a one key false s⟩) hob wb he1 v3 (.inl (by show (oldD (joinA a ⟨key,regD a two key false t⟩).1 1 key).2=true; rw [j2']))
  have hbe:behind (regD a one key false s) (regD a two key false t)=false:=by
   cases hb:behind (regD a one key false s) (regD a two key false t) with
   | false=>rfl
   | true =>
    exfalso
    rcases (behind_iff _ _).1 hb with h1 | ⟨_,h1 | ⟨h1,_⟩⟩
    ·exact absurd h1 (Int.lt_irrefl _)
    ·exact absurd h1 (by show ¬ two<one; omega)
    ·exact absurd h1 (by show ¬ two=one; omega)
  have k2':oldD (joinA (joinA a ⟨key,regD a two key false t⟩).1 ⟨key,regD a one key false s⟩).1 1 key=(regD a two key false t,true):=by
   have:oldD (joinA (joinA a ⟨key,regD a two key false t⟩).1 ⟨key,regD a one key false s⟩).1 1 key=(J (oldD (joinA a ⟨key,regD a two key false t⟩).1 1 key).1 (regD a one key false s),true):=k2
   rw [this,j2',J_1 ⟨wok,vok,rfl⟩ rfl,hbe]; rfl
  obtain ⟨m1,m2⟩:=merge2 j1 k1
  rw [v5,w5]
  refine ⟨sa,sml2 w4 v4,wfl2 w3 v3,_,rfl,sma_merge sa (sml2 w4 v4),_,rfl,?_⟩
  show true=(((mergeA a [⟨key,regD a two key false t⟩,⟨key,regD a one key false s⟩]).2.2==0)&&((textU (mergeA a [⟨key,regD a two key false t⟩,⟨key,regD a one key false s⟩]).1 key).1==t))
  rw [m1,m2]
  have:textU (joinA (joinA a ⟨key,regD a two key false t⟩).1 ⟨key,regD a one key false s⟩).1 key=(t,true):=by unfold textU; rw [k2']; rfl
  rw [this]; simp
theorem deltaTwo_row (a:Arena) (p q:Int) (key:Str) (n m:Int) (s t:Str) (g0:GArena a) (w1:inK .u8 p) (w2:inK .u8 q) (g3:shortL key) (w4:inK .i64 n) (w5:inK .i64 m) (g6:shortL s) (g7:shortL t):law09_DeltaTwo_raw a p q key n m s t true:=deltaTwo_ev a p q key n m s t g0
end Go.Proofs.Ythhjcijhanacnaa
