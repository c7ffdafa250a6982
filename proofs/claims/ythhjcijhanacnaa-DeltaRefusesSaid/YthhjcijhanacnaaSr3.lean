/- DeltaRefuses: what is refused for one reason is so whatever else it is. -/
import Derived.Test.YthhjcijhanacnaaGiRefuses
import Derived.Test.YthhjcijhanacnaaLk
namespace Go.Proofs.Ythhjcijhanacnaa
open Go Go.RowKit
set_option linter.unusedVariables false
set_option linter.unusedSimpArgs false

theorem add_err {a:Arena} {node:Int} {key:Str} {n:Int} (h:((addU a node key n).2 != 0)=true):(addU a node key n).1=zeroE:=by
 unfold addU at h ⊢
 cases h1:mayD a node key != 0 with
 | true=>rfl
 | false =>
  cases h2:mostD n != 0 with
  | true=>rfl
  | false =>
   cases h3:roomD a 2 key != 0 with
   | true=>rfl
   | false =>
    rw [h1,h2,h3] at h
    simp only [cond_false] at h ⊢
    cases h4:decide (n<0) with
    | true =>
     rw [h4] at h
     cases h5:decide (65535<minusD a node key n) with
     | true=>rfl
     | false=>rw [h5] at h; cases h
    | false =>
     rw [h4] at h
     cases h5:decide (65535<plusD a node key n) with
     | true=>rfl
     | false=>rw [h5] at h; cases h
theorem many_one {x:Ent × Int} {P M:List Int} {k:Nat} (hx:x.1.val=cntV P M) (hP:P.length=8) (hM:M.length=8) (hk:k<8) (h0:∀ i,i<8→i≠k→P.getD i default=0∧M.getD i default=0)
  (h1:(0<P.getD k default∧M.getD k default=0)∨(P.getD k default=0∧0<M.getD k default)):LoopR (law09_DeltaRefuses_b134 x) ((0:Int),(0:Int)) (1,8):=by
 have ep:x.1.val.plus=P:=congrArg Val.plus hx
 have em:x.1.val.minus=M:=congrArg Val.minus hx
 have key:=loop_fold (body:=law09_DeltaRefuses_b134 x) 8 (fun i=>((if k<i then (1:Int) else 0),(i:Int))) (fun i hi=>by
  have c1:(decide ((i:Int)<(P.length:Int))&&decide ((i:Int)<(M.length:Int)))=true:=by rw [hP,hM]; simp; omega
  have e3:IntKind.i64.wrap ((i:Int) + (1:Int))=((i + 1:Nat):Int):=wrapS (n:=8) hi (by omega)
  unfold law09_DeltaRefuses_b134
  rw [ep,em]
  simp only [nth_nat,e3]
  refine ⟨fun _=>?_,fun c=>by rw [c1] at c; cases c⟩
  by_cases hik:i=k
  ·subst hik
   have ei:(if i<i + 1 then (1:Int) else 0)=1:=if_pos (by omega)
   have ej:(if i<i then (1:Int) else 0)=0:=if_neg (by omega)
   rw [ei,ej]
   rcases h1 with ⟨p1,m1⟩ | ⟨p1,m1⟩
   ·exact ⟨⟨by omega,by rw [hP]; omega⟩,fun _=>⟨⟨by omega,by rw [hM]; omega⟩,fun c=>absurd (show 0<M.getD i default from of_decide_eq_true c) (by omega),fun _=>rfl⟩,fun c=>absurd (show 0<P.getD i default from p1) (of_decide_eq_false c)⟩
   ·exact ⟨⟨by omega,by rw [hP]; omega⟩,fun c=>absurd (show 0<P.getD i default from of_decide_eq_true c) (by omega),fun _=>⟨⟨by omega,by rw [hM]; omega⟩,fun _=>rfl,fun c=>absurd (show 0<M.getD i default from m1) (of_decide_eq_false c)⟩⟩
  ·obtain ⟨p1,m1⟩:=h0 i hi hik
   have ei:(if k<i + 1 then (1:Int) else 0)=(if k<i then (1:Int) else 0):=by
    by_cases hlt:k<i
    ·rw [if_pos hlt,if_pos (by omega)]
    ·rw [if_neg hlt,if_neg (by omega)]
   rw [ei]
   exact ⟨⟨by omega,by rw [hP]; omega⟩,fun c=>absurd (show 0<P.getD i default from of_decide_eq_true c) (by omega),fun _=>⟨⟨by omega,by rw [hM]; omega⟩,fun c=>absurd (show 0<M.getD i default from of_decide_eq_true c) (by omega),fun _=>rfl⟩⟩) (by
  unfold law09_DeltaRefuses_b134
  rw [ep,em]
  exact ⟨fun c=>by rw [hP] at c; simp at c,fun _=>rfl⟩)
 have e0:(if k<0 then (1:Int) else 0)=0:=if_neg (by omega)
 have e8:(if k<8 then (1:Int) else 0)=1:=if_pos hk
 simp only [e0,e8] at key
 exact key
theorem deltaRefuses_ev (a:Arena) (node:Int) (key:Str) (n:Int) (ga:GArena a):law09_DeltaRefuses_raw a node key n true:=by
 refine ⟨fun h=>(by cases h),fun _=>⟨fun _=>rfl,fun f1=>?_⟩⟩
 have fa:fewA a=true:=by revert f1; cases fewA a <;> simp
 have sa:=fewA_sma fa
 have wa:wfa a:=wfl_of ga.2.1
 refine ⟨sa,_,rfl,sa,_,rfl,sa,_,rfl,sa,fun hb=>?_,fun hb=>⟨fun he=>?_,fun he=>?_⟩⟩
 ·have hm:(mayD a node key != 0)=true:=by
   cases hm:mayD a node key != 0 with
   | true=>rfl
   | false =>
    exfalso
    obtain ⟨ho,n0,n8,hk⟩:=may_0 hm
    obtain ⟨k1,k8⟩:=keyD_len hk
    rw [checkA_ne,ho] at hb
    have e1:decide (node<0)=false:=by simp; omega
    have e2:decide (7<node)=false:=by simp; omega
    have e3:(key==([]:Str))=false:=by cases key <;> simp at k1 ⊢
    have e4:decide ((8:Int)<(key.length:Int))=false:=by simp; omega
    rw [e1,e2,e3,e4] at hb
    cases hb
  have e1:addU a node key n=(zeroE,mayD a node key):=by unfold addU; rw [bif_ne hm]
  have e2:putU a node key []=(zeroE,mayD a node key):=by unfold putU; rw [bif_ne hm]
  have e3:delU a node key=(zeroE,mayD a node key):=by unfold delU; rw [bif_ne hm]
  rw [e1,e2,e3]
  simp [hm]
 ·rw [add_err he]; rfl
 ·have h0:(addU a node key n).2=0:=by simpa using he
  obtain ⟨ho,⟨n0,n8⟩,hk,hr,hn,hc⟩:=add_0 wa h0
  obtain ⟨o1,o2,o3⟩:=old_ok wa (.inr (.inl rfl):isK 2) key
  obtain ⟨cp,cm,_⟩:=cnt_ok o1 o2
  obtain ⟨p0,p1⟩:=nth_cn cp n0 n8
  obtain ⟨m0,m1⟩:=nth_cn cm n0 n8
  have z0:∀ i,(Z8:List Int).getD i default=0:=fun i=>by
   by_cases hi:i<8
   ·simp [hi]
   ·rw [List.getD_eq_getElem?_getD,List.getElem?_eq_none (by simp; omega)]; rfl
  have zs:∀ (x:Int) i,i≠node.toNat→(Z8.set node.toNat x).getD i default=0:=fun x i hi=>by
   rw [List.getD_eq_getElem?_getD,List.getElem?_set_ne (Ne.symm hi),← List.getD_eq_getElem?_getD]; exact z0 i
  have zk:∀ (x:Int),(Z8.set node.toNat x).getD node.toNat default=x:=fun x=>by
   rw [List.getD_eq_getElem?_getD,List.getElem?_set_self (by simp; omega)]; rfl
  rcases hc with ⟨hp,hl,e⟩ | ⟨hp,hl,e⟩
  ·have hs:cn (Z8.set node.toNat (nth (oldD a 2 key).1.plus node + n)):=cn_set cn_Z8 (by omega) hl
   rw [e]
   refine ⟨_,many_one (k:=node.toNat) rfl (by simp) (by simp) (by omega) (fun i hi hne=>⟨zs _ i hne,z0 i⟩) (.inl ⟨by rw [zk]; omega,z0 _⟩),fun _=>⟨by show (Z8.set _ _).length≤_; simp,by show (Z8:List Int).length≤_; decide⟩,?_⟩
   show true=(((key==key)&&(checkV (cntV (Z8.set node.toNat (nth (oldD a 2 key).1.plus node + n)) Z8)==0))&&((1:Int)==1))
   rw [checkV_ok,okV_cnt hs cn_Z8]; simp
  ·have hs:cn (Z8.set node.toNat (nth (oldD a 2 key).1.minus node - n)):=cn_set cn_Z8 (by omega) hl
   rw [e]
   refine ⟨_,many_one (k:=node.toNat) rfl (by simp) (by simp) (by omega) (fun i hi hne=>⟨z0 i,zs _ i hne⟩) (.inr ⟨z0 _,by rw [zk]; omega⟩),fun _=>⟨by show (Z8:List Int).length≤_; decide,by show (Z8.set _ _).length≤_; simp⟩,?_⟩
   show true=(((key==key)&&(checkV (cntV Z8 (Z8.set node.toNat (nth (oldD a 2 key).1.minus node - n)))==0))&&((1:Int)==1))
   rw [checkV_ok,okV_cnt cn_Z8 hs]; simp
theorem deltaRefuses_row (a:Arena) (node:Int) (key:Str) (n:Int) (g0:GArena a) (w1:inK .i64 node) (g2:shortL key) (w3:inK .i64 n):law09_DeltaRefuses_raw a node key n true:=deltaRefuses_ev a node key n g0
end Go.Proofs.Ythhjcijhanacnaa
